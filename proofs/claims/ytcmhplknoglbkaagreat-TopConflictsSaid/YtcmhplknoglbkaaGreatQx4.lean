/- Part 4 of the proof of TopConflictsSaid. -/
import Derived.DeepKeys4
import Derived.Maps.OwnOps
import Derived.Test.YtcmhplknoglbkaaGreatQx0
import Derived.Test.YtcmhplknoglbkaaGreatQx2
import Derived.Test.YtcmhplknoglbkaaGreatQx3
set_option linter.all false
set_option maxRecDepth 100000
set_option maxHeartbeats 4000000
open Go.Proofs.Tryz
open Array renaming ext'->agc,toList_extract->agf
open BitVec renaming ofInt->nw
open Bool renaming false->ao,true->az
open Decidable renaming of_not_not->DA
open Go renaming Act->bT,Addr->bQ,Calls->aD,Oper->cU,Program->ee,Value->aO,World->aM,bodyPost_ret->dp,builtin->qF,execOp->bt,heap_alloc_new->fz,invoke->nC,isAgg->tE,madeCells->GG,maxLen->eh,resolve->nD,results_cell_row->jd,results_tmp->Kd,run_copy_row->Ke,run_underlying->gE,sizeOf->my,undef->a1,wpList->cL,wpList_nil->an,wp_region_lit->cm
open Go.Addr renaming add->wb
open Go.Callee renaming builtin->oR
open Go.ChangeMaps renaming setBlock->kV
open Go.Ending renaming returned->aB
open Go.Fn renaming func->ed
open Go.IntKind renaming bits->DK,i64->R,signed->JT,u32->wi,u64->aH,u8->d',wrap->DL
open Go.Next renaming value->c9
open Go.Op renaming call->nB,equalIn->O0,indexAddr->DM
open Go.Operand renaming const->qB,tmp->bj
open Go.Proofs.Tryz renaming func209->Vx,func218->Vy,func281->O7,func283->VH,func326->VK,ntmps209->V0,ntmps218->V1,ntmps281->Pe,ntmps283->V5,ntmps326->V6,prog->aw,underlying118->sw,underlying22->dL,underlying23->tB,underlying3->jJ,underlying35->Bu,underlying354->Wi,underlying435->Wo
open Go.Proofs renaming enters_of->kW
open Go.Region renaming wanted->c6
open Go.Result renaming andThen_ok->jc,ok->a6
open Go.RowKit renaming Hid->aE,intOf->cy
open Go.Sem renaming run_bind->ga,run_pure->jK
open Go.TypeDesc renaming array->wy,slice->iF
open Go.Value renaming agg->av,bool->ai,func->dC,int->J,map->dj,pointer->ax,slice->ae,tuple->bm
open List renaming all_cons->QF,append_assoc->j0,append_nil->j1,drop_succ_cons->XR,eq_nil_of_length_eq_zero->j2,extract->aj8,foldl_cons->tO,getElem?_eq_getElem->cC,getElem?_map->lr,length_append->c',length_cons->js,length_drop->tP,length_map->gV,length_replicate->pN,length_set->wN,map_append->gp,map_cons->jM,map_nil->kp,map_toArray->oo,mem_append->j3,mem_cons->gF,mem_cons_self->rK,mem_map->fL,mem_of_getElem?->cY,mem_singleton->wO,not_mem_nil->fQ,perm_append_comm->vm,range->dG,range'->akf,range_succ->pQ,replicate->eU,take_add_one->gg,take_left'->akh,take_of_length_le->tQ
open Min renaming min->fW
open Nat renaming add_div_right->X0,add_sub_cancel_left->tS,div_eq_of_lt->X1,div_le_div_right->QW,div_le_self->yt,eq_zero_or_pos->lL,le_div_iff_mul_le->akj,le_mul_of_pos_left->Hj,le_mul_of_pos_right->zW,le_refl->b4,le_trans->ea,mul_comm->Ef,mul_le_mul_right->o2,sub_le->Hk,succ_mul->tT,zero_add->jt,zero_le->cF
open Option renaming getD_some->vo,map_some->pR,none->af,some->ab
open Option.some renaming injEq->wR
open Or renaming inl->bM,inr->b8
open Prod.mk renaming injEq->o3
open Std.Legacy.Range renaming forIn_eq_forIn_range'->ayz,size->ayA
namespace Go.Proofs.YtcmhplknoglbkaaGreat
section
open Go.RowKit Go.MapKept
def afV(bs:List Int)(i:Nat):Int:=xD (xD (xD (vT (ks (bs[4*i]?.getD 0)) 24) (vT (ks (bs[4*i+1]?.getD 0)) 16)) (vT (ks (bs[4*i+2]?.getD 0)) 8)) (ks (bs[4*i+3]?.getD 0))
def uz(bs:List Int):Nat->List Int
 |0=>eU 16 0
 |i+1=>(uz bs i).set i (afV bs i)
def Mt(bs:List Int):∀q,(uz bs q).length=16
 |0=>aa
 |q+1=>by rw[uz,wN];exact Mt bs q
def A0(t:Nat)(w:List Int):List Int:=if 16<=t then w.set (t%16) (a32 (w[t%16]?.getD 0) (a32 (a32 (kB (kB (kS (w[(t+1)%16]?.getD 0) 25) (kS (w[(t+1)%16]?.getD 0) 14)) (ke (w[(t+1)%16]?.getD 0) 3)) (w[(t+9)%16]?.getD 0)) (kB (kB (kS (w[(t+14)%16]?.getD 0) 15) (kS (w[(t+14)%16]?.getD 0) 13)) (ke (w[(t+14)%16]?.getD 0) 10))))else w
def au2{t:Nat}{w:List Int}{n:Nat}(h:w.length=n):(A0 t w).length=n:=by
 unfold A0;split;·rw[wN];exact h
 .exact h
def A2(v:List Int):List Int:=v.take 1++v.take 7
def Da{v:List Int}(h:v.length=8):(A2 v).length=8:=by simp[A2,h]
def afz(k a:Int)(v:List Int):Int:=a32 (a32 (a32 (a32 (v[7]?.getD 0) (kB (kB (kS (v[4]?.getD 0) 26) (kS (v[4]?.getD 0) 21)) (kS (v[4]?.getD 0) 7))) (kB (v[6]?.getD 0) (n32 (v[4]?.getD 0) (kB (v[5]?.getD 0) (v[6]?.getD 0))))) k) a
def avQ(v:List Int):Int:=a32 (kB (kB (kS (v[0]?.getD 0) 30) (kS (v[0]?.getD 0) 19)) (kS (v[0]?.getD 0) 10)) (xD (n32 (v[0]?.getD 0) (v[1]?.getD 0)) (n32 (v[2]?.getD 0) (xD (v[0]?.getD 0) (v[1]?.getD 0))))
def Ug(k a:Int)(v:List Int):List Int:=((A2 v).set 4 (a32 ((A2 v)[4]?.getD 0) (afz k a v))).set 0 (a32 (afz k a v) (avQ v))
def auo{k a:Int}{v:List Int}(h:v.length=8):(Ug k a v).length=8:=by simp only[Ug,wN];exact Da h
def Jc(t:Nat)(p:List Int×List Int):List Int×List Int:=(A0 t p.1,Ug (y8[t]?.getD 0) ((A0 t p.1)[t%16]?.getD 0) p.2)
def auy{t:Nat}{p:List Int×List Int}(h:p.1.length=16/\p.2.length=8):(Jc t p).1.length=16/\(Jc t p).2.length=8:=⟨au2 h.1,auo h.2⟩
def vY(bs ws:List Int):Nat->List Int×List Int
 |0=>(bs,ws)
 |t+1=>Jc t (vY bs ws t)
def Ub{bs ws:List Int}(hb:bs.length=16)(h:ws.length=8):∀t,(vY bs ws t).1.length=16/\(vY bs ws t).2.length=8
 |0=>⟨hb,h⟩
 |t+1=>by rw[vY];exact auy (Ub hb h t)
def A7(v:List Int)(ws:List Int):Nat->List Int
 |0=>ws
 |i+1=>(A7 v ws i).set i (a32 ((A7 v ws i)[i]?.getD 0) (v[i]?.getD 0))
def Nw{v ws:List Int}(h:ws.length=8):∀i,(A7 v ws i).length=8
 |0=>h
 |i+1=>by rw[A7,wN];exact Nw h i
def En(ws bs:List Int):List Int:=A7 (vY (uz bs 16) ws 64).2 ws 8
theorem Eo{ws bs:List Int}(h:ws.length=8):(En ws bs).length=8:=Nw h 8
def ae9{v:List Int}(h:v.length=8):((aZ cd v []).toList.take 1++(v.take 7).map cd++(aZ cd v []).toList.drop (1+7)).toArray=aZ cd (A2 v) []:=by
 have h1:(aZ cd v []).toList=v.map cd:=by simp[aZ]
 rw[h1];have a:(v.map cd).drop (1+7)=[]:=List.drop_eq_nil_of_le (by simp[h]);rw[a];simp[aZ,A2,List.map_take]
def Y2{w:aM}{B t j:Nat}{v:aO}{b:List Int}(hb:aU w B (aZ cd b []) t)(c:b.length=8)(a:((b.take 7).map cd)[j]?=ab v):w.cell? ((⟨B,0,af⟩:bQ).add j)=ab v:=by
 rw[nL,jt];refine aU.cell hb j ?_;rw[lr,List.getElem?_take]at a;simp only[aZ,j1,List.getElem?_toArray,lr];split at a;·exact a
 .cases a
section
variable {P:ee} {o:cU} {a:bT} {w:aM}
def Y1{d m:Operand}{e l f B off c h g k t n:Nat}{b:bQ}{old new:Array aO}(cs:List aO)(ho:o.op=nB {callee:=oR .copy,args:=#[d,m],argTypes:=#[e,l]})(q:a.eval d=ae (ab ⟨B,off,af⟩) c h)(y:a.eval m=ae (ab b) g k)(i:aU w B old t)(x:∀j v,cs[j]?=ab v->w.cell? (b.add j)=ab v)(p:cs.length=n)(s:(old.toList.take off++cs++old.toList.drop (off+n)).toArray=new)(hcs:n=Nat.min g c)(r:off+n<=old.size)(h1:∀v∈cs,v.oneCell'=az)(z:P.underlying e=ab (iF f))(u:(P.info? f).map (·.size)=ab 1):
 ∃w',(bt a.eval o).run P w=a6 (c9 (J R (n:Int))) w'/\Turned w w' (aj B old t) (aj B new t):=by
 subst p;have hr:=Ke (P:=P) w e l o.type f B off c h b g k old t cs z u i hcs x r h1;refine⟨w.setRow B (old.toList.take off++cs++old.toList.drop (off+cs.length)).toArray,?_,vt (au.setRow w B _) (s▸i.setRow _)⟩;unfold bt;simp only[ho,nD,nC,qF,ga,jK,jc,oo,jM,kp,q,y,hr];rfl
end
set_option maxHeartbeats 8000000 in
def alr(B t:Nat)(ws:List Int)(s:aO)(n:Int)(A:Option bQ)(dB:Nat)(bs:List Int)(w:aM)(ht:t≠5)(q3:ws.length=8)(hl:bs.length=64)(hb:bX w A bs)(hne:∀off sp,A≠ab ⟨B,off,sp⟩)(U:aU w B (aZ cd ws [s,J R n]) t):
 aD aw 299 #[ax (ab ⟨B,0,af⟩),ae A 64 dB] w λe w'=>e=aB (bm #[])/\au (λb=>b=B) w w'/\aU w' B (aZ cd (En ws bs) [s,J R n]) t:=by
 obtain⟨l,g,rfl,P⟩:=hb ad;have E:=hid P;have u:=hid q3;have az1:l≠B:=λe=>hne g af (by rw[e]);clear hb P hne;go_enter func299,ntmps299;have a:=ak.start (t:=aj B (aZ cd ws [s,J R n]) t) ⟨U,λb e=>(show b=B from e)▸aU.lt U⟩;go_upto_region 0 with fail;refine cm ?_;refine bA a (aZ cd (uz bs 0) []) (λD w1 a=>?_);refine an ?_;go_upto_region 1 with fail;refine cm ?_;refine ag ?_;refine Lv ?_;go_loopw [21] (λh wr=>∃q:Nat,q<=16/\h=J R q/\ak w (λb=>b=B) wr [aj D (aZ cd (uz bs q) []) 434,aj B (aZ cd (ws) [s,J R n]) t]) (λh wr=>16 -(cy h).toNat);case atStart=>exact⟨0,cF _,aa,a⟩
 case round=>
  clear a;obtain⟨q,T,rfl,a⟩:=hrel;by_cases hlt:q<16
  .have S:(q:Int)<16:=ad;obtain⟨b0,hb0⟩:=ex (bs[4*q]?.getD 0);have X:=E (4*q) ad;rw[hb0]at X;obtain⟨eF,hb1⟩:=ex (bs[4*q+1]?.getD 0);have Y:=E (4*q+1) ad;rw[hb1]at Y;obtain⟨eV,hb2⟩:=ex (bs[4*q+2]?.getD 0);have Z:=E (4*q+2) ad;rw[hb2]at Z;obtain⟨sL,hb3⟩:=ex (bs[4*q+3]?.getD 0);have z3:=E (4*q+3) ad;rw[hb3]at z3;have F:=hid (And.intro hb0 (And.intro hb1 (And.intro hb2 hb3)));clear hb0 hb1 hb2 hb3;go_upto_region 3 with fail;refine cm ?_;refine v2 ?_;refine an ?_;go_upto_region 4 with fail;refine bN a [35] (λ_ _=>a1) (λ_=>λ|35=>aj D (aZ cd ((uz bs q).set q (xD (xD (xD (vT (ks b0) 24) (vT (ks eF) 16)) (vT (ks eV) 8)) (ks sL))) []) 434|_=>emp) (λ|35=>[0]|_=>[]) (λ_=>[]) (λ_=>[]) [1,37] (λo=>?_);refine da ?_;refine Lo 4 (q:Int) ((4*q:Nat):Int) ?_;refine aN (ax (ab ⟨l,(g+(4*q)),af⟩)) (λ_ _ _=>cq 22 5 1 (bj 25) (bj 27) aa dL ay l g 64 dB ((4*q)) ((g+(4*q))) aa aa ad ad) ?_;refine lv X ?_;refine gZ (cd (ks b0)) ?_;refine gZ (cd (vT (ks b0) 24)) ?_;refine bF ?_;refine Lo 4 (q:Int) ((4*q:Nat):Int) ?_;refine uc ((4*q:Nat):Int) 1 ((4*q+1:Nat):Int) ?_;refine aN (ax (ab ⟨l,(g+(4*q+1)),af⟩)) (λ_ _ _=>cq 22 5 1 (bj 32) (bj 35) aa dL ay l g 64 dB ((4*q+1)) ((g+(4*q+1))) aa aa ad ad) ?_;refine lv Y ?_;refine gZ (cd (ks eF)) ?_;refine gZ (cd (vT (ks eF) 16)) ?_;refine p2 ?_;refine bF ?_;refine Lo 4 (q:Int) ((4*q:Nat):Int) ?_;refine uc ((4*q:Nat):Int) 2 ((4*q+2:Nat):Int) ?_;refine aN (ax (ab ⟨l,(g+(4*q+2)),af⟩)) (λ_ _ _=>cq 22 5 1 (bj 41) (bj 44) aa dL ay l g 64 dB ((4*q+2)) ((g+(4*q+2))) aa aa ad ad) ?_;refine lv Z ?_;refine gZ (cd (ks eV)) ?_;refine gZ (cd (vT (ks eV) 8)) ?_;refine p2 ?_;refine bF ?_;refine Lo 4 (q:Int) ((4*q:Nat):Int) ?_;refine uc ((4*q:Nat):Int) 3 ((4*q+3:Nat):Int) ?_;refine aN (ax (ab ⟨l,(g+(4*q+3)),af⟩)) (λ_ _ _=>cq 22 5 1 (bj 50) (bj 53) aa dL ay l g 64 dB ((4*q+3)) ((g+(4*q+3))) aa aa ad ad) ?_;refine lv z3 ?_;refine gZ (cd (ks sL)) ?_;refine p2 ?_;refine p0 ?_;refine RG (Mt ..) ?_;refine bU λaW a=>?_;go_wp2_with fail;go_roundw;case rel=>exact⟨q+1,ad,by go_num,by rw[uz,afV,F.1,F.2.1,F.2.2.1,F.2.2.2];exact a.pick [1,0]⟩
   case measure=>simp[cy];omega
  .obtain rfl:q=16:=ad;go_upto_region 6 with fail;refine cm ?_;refine v3 ?_;refine Nb a 1 u ?_;refine bA a (aZ cd (eU 8 0) []) (λL bI a=>?_);refine C4 a 0 (pN ..) u (λcc a=>?_);refine an ?_;go_upto_region 7 with fail;refine cm ?_;refine bH (To _) a (λcJ a=>?_);refine ag ?_;refine Lv ?_;go_loopw [65] (λh wr=>∃q:Nat,q<=64/\h=J R q/\ak w (λb=>b=B) wr [aj L (aZ cd ((vY (uz bs 16) ws q).2) []) 352,aj D (aZ cd ((vY (uz bs 16) ws q).1) []) 434,aj B (aZ cd (ws) [s,J R n]) t]) (λh wr=>64 -(cy h).toNat);case atStart=>exact⟨0,cF _,aa,a⟩
   case round=>
    clear a;obtain⟨q,T,rfl,a⟩:=hrel;obtain⟨d,I⟩:=ex (vY (uz bs 16) ws q).1;obtain⟨f,H⟩:=ex (vY (uz bs 16) ws q).2;have hl4:d.length=16:=by rw[<-I];exact(Ub (Mt bs 16) u q).1
    have Q:f.length=8:=by rw[<-H];exact(Ub (Mt bs 16) u q).2
    rw[I,H]at a;have y:=hid (And.intro I H);have r:=hid hl4;have c:=hid Q;clear I H hl4 Q;by_cases hlt:q<64
    .have S:(q:Int)<64:=ad;obtain⟨k,hx0⟩:=ex (q%16);obtain⟨df,hx1⟩:=ex ((q+1)%16);obtain⟨K,W⟩:=ex ((q+9)%16);obtain⟨p,V⟩:=ex ((q+14)%16);by_cases G:16<=q
     .have aou:(16:Int)<=(q:Int):=ad;go_upto_region 9 with fail;refine cm ?_;refine ag ?_;refine aI (cd (y8[q]?.getD 0)) (Tj 435 315 64 (bj 64) (bj 65) aa Wo ay ay cd y8 q aa aa hlt Tn) ?_;refine v2 ?_;refine an ?_;go_upto_region 10 with fail;refine cm ?_;refine v2 ?_;refine an ?_;go_upto_region 11 with fail;refine bN a [] (λ_ _=>a1) (λ_ _=>emp) (λ_=>[]) (λ|4=>[1]|9=>[1]|_=>[]) (λ_=>[]) [0,1,2] (λo=>?_);refine aK ?_;refine uc (q:Int) 1 ((q+1:Nat):Int) ?_;refine aN (J R (df:Int)) (λ_ _ _=>Em 3 (bj 72) (qB (J R 15)) 3 aa ((q+1)) aa aa ad df ad) ?_;refine p0 ?_;refine sU 0 r ?_;refine aK ?_;refine uc (q:Int) 14 ((q+14:Nat):Int) ?_;refine aN (J R (p:Int)) (λ_ _ _=>Em 3 (bj 77) (qB (J R 15)) 3 aa ((q+14)) aa aa ad p ad) ?_;refine p0 ?_;refine sU 0 r ?_;refine bF ?_;refine bU λc5 a=>?_;go_upto_region 12 with fail;refine cm ?_;refine ag ?_;refine bH (qn _ (-7) 25 _ bf) a (λdK a=>?_);refine ag ?_;refine bH (qn _ (-18) 14 _ bf) a (λdz a=>?_);refine pu ?_;refine ag ?_;refine pk (cd (ke (d[df]?.getD 0) 3)) ?_;refine pu ?_;refine ag ?_;refine an ?_;go_upto_region 13 with fail;refine cm ?_;refine ag ?_;refine bH (qn _ (-17) 15 _ bf) a (λeY a=>?_);refine ag ?_;refine bH (qn _ (-19) 13 _ bf) a (λgQ a=>?_);refine pu ?_;refine ag ?_;refine pk (cd (ke (d[p]?.getD 0) 10)) ?_;refine pu ?_;refine ag ?_;refine an ?_;go_upto_region 14 with fail;refine bN a [15] (λ_ _=>a1) (λ_=>λ|15=>aj D (aZ cd (d.set k (a32 (d[k]?.getD 0) (a32 (a32 (kB (kB (kS (d[df]?.getD 0) 25) (kS (d[df]?.getD 0) 14)) (ke (d[df]?.getD 0) 3)) (d[K]?.getD 0)) (kB (kB (kS (d[p]?.getD 0) 15) (kS (d[p]?.getD 0) 13)) (ke (d[p]?.getD 0) 10))))) []) 434|_=>emp) (λ|15=>[1]|_=>[]) (λ|3=>[1]|9=>[1]|_=>[]) (λ_=>[]) [0,2,18] (λo=>?_);refine aK ?_;refine aN (J R (k:Int)) (λ_ _ _=>Em 3 (bj 97) (qB (J R 15)) 3 aa q aa aa ad k ad) ?_;refine p0 ?_;refine sU 0 r ?_;refine bF ?_;refine uc (q:Int) 9 ((q+9:Nat):Int) ?_;refine aN (J R (K:Int)) (λ_ _ _=>Em 3 (bj 103) (qB (J R 15)) 3 aa ((q+9)) aa aa ad K ad) ?_;refine p0 ?_;refine sU 0 r ?_;refine p2 ?_;refine aK ?_;iterate 2 refine p2 ?_
      refine p0 ?_;refine RG r ?_;refine bU λib a=>?_;obtain⟨z,m⟩:=ex (d.set k (a32 (d[k]?.getD 0) (a32 (a32 (kB (kB (kS (d[df]?.getD 0) 25) (kS (d[df]?.getD 0) 14)) (ke (d[df]?.getD 0) 3)) (d[K]?.getD 0)) (kB (kB (kS (d[p]?.getD 0) 15) (kS (d[p]?.getD 0) 13)) (ke (d[p]?.getD 0) 10)))));rw[m]at a;have C:z.length=16:=by rw[<-m];exact(wN.trans r)
      have N:aE (A0 q d=z):=hid (by rw[<-m];unfold A0;first|rw[if_pos G,hx0,hx1,W,V]|rw[if_neg G]);have M:=hid C;clear m C;go_upto_region 15 with fail;refine bN a [] (λ_ _=>a1) (λ_ _=>emp) (λ_=>[]) (λ|1=>[0]|3=>[0]|_=>[]) (λ_=>[]) [0,1,2] (λo=>?_);refine p0 ?_;refine sU 0 c ?_;refine p0 ?_;refine sU 0 c ?_;refine bF ?_;refine bU λjS a=>?_;go_upto_region 16 with fail;refine cm ?_;refine mK ?_;refine pt a 0 c ?_;refine ag ?_;refine mK ?_;refine pt a 0 c ?_;refine mK ?_;refine pt a 0 c ?_;iterate 3 refine pu ?_
      refine ag ?_;refine an ?_;go_upto_region 17 with fail;refine cm ?_;refine ag ?_;refine mK ?_;refine pt a 0 c ?_;refine pu ?_;refine mK ?_;refine pt a 0 c ?_;refine ag ?_;refine mK ?_;refine pt a 0 c ?_;iterate 3 refine pu ?_
      refine ag ?_;refine an ?_;go_upto_region 18 with fail;refine bN a [3,5,8] (λi _=>match i with|3=>cd (kS (f[4]?.getD 0) 26)|5=>cd (kS (f[4]?.getD 0) 21)|8=>cd (kS (f[4]?.getD 0) 7)|_=>a1) (λ_ _=>emp) (λ_=>[]) (λ|1=>[0]|18=>[2]|_=>[]) (λ_=>[]) [0,1,2,6,8,11] (λo=>?_);refine p0 ?_;refine sU 0 c ?_;refine aK ?_;refine dD (λ_ _ _=>qn _ (-6) 26 _ bf) ?_;refine aK ?_;refine dD (λ_ _ _=>qn _ (-11) 21 _ bf) ?_;refine p2 ?_;refine aK ?_;refine dD (λ_ _ _=>qn _ (-25) 7 _ bf) ?_;iterate 2 refine p2 ?_
      refine aK ?_;refine p2 ?_;refine aK ?_;refine p2 ?_;refine aK ?_;refine aN (J R (k:Int)) (λ_ _ _=>Em 3 (bj 153) (qB (J R 15)) 3 aa q aa aa ad k ad) ?_;refine p0 ?_;refine sU 0 M ?_;refine p2 ?_;refine aK ?_;refine bU λkh a=>?_;replace a:=a.drop 3;replace a:=a.drop 3;replace a:=a.drop 3;go_upto_region 19 with fail;refine cm ?_;refine ag ?_;refine bH (qn _ (-2) 30 _ bf) a (λlf a=>?_);refine ag ?_;refine bH (qn _ (-13) 19 _ bf) a (λmr a=>?_);refine pu ?_;refine ag ?_;refine bH (qn _ (-22) 10 _ bf) a (λn1 a=>?_);refine pu ?_;refine ag ?_;refine pu ?_;refine ag ?_;refine an ?_;go_upto_region 20 with fail;refine bN a [2] (λi _=>match i with|2=>J R 7|_=>a1) (λ_=>λ|2=>aj L (aZ cd (A2 f) []) 352|_=>emp) (λ|2=>[0]|_=>[]) (λ_=>[]) (λ_=>[]) [1,2,5] (λo=>?_);refine bF ?_;refine HA (J R 7) (λ_ _ a=>Y1 ((f.take 7).map cd) aa aa aa (a.aX 0) (λj v O=>Y2 (a.aX 0) c O) (n:=7) (by simp[c.out]) (ae9 c) aa (by rw[kr,c];decide) (λv hv=>by obtain⟨x,_,rfl⟩:=fL.1 hv;rfl) aa ay) ?_;refine bU λre a=>?_;go_upto_region 21 with fail;refine cm ?_;refine mK ?_;refine pt a 2 (Da c) ?_;refine ag ?_;refine pu ?_;refine mK ?_;refine FK a 2 (Da c) (λrf a=>?_);refine an ?_;go_upto_region 22 with fail;refine cm ?_;refine v2 ?_;refine pu ?_;refine mK ?_;refine FK a 2 (wN.trans (Da c)) (λuV a=>?_);refine an ?_;go_wp2_with fail;go_roundw;case rel=>exact⟨q+1,ad,by go_num,by rw[vY,Jc,y.1,y.2,N,hx0];exact a.pick [2,1,0]⟩
      case measure=>simp[cy];omega
     .have aou:¬(16:Int)<=(q:Int):=ad;go_upto_region 9 with fail;refine cm ?_;refine ag ?_;refine aI (cd (y8[q]?.getD 0)) (Tj 435 315 64 (bj 64) (bj 65) aa Wo ay ay cd y8 q aa aa hlt Tn) ?_;refine v2 ?_;refine an ?_;go_upto_region 10 with fail;refine cm ?_;refine v2 ?_;refine an ?_;obtain⟨z,m⟩:=ex d;rw[m]at a;have C:z.length=16:=by rw[<-m];exact r
      have N:aE (A0 q d=z):=hid (by rw[<-m];unfold A0;first|rw[if_pos G,hx0,hx1,W,V]|rw[if_neg G]);have M:=hid C;clear m C;go_upto_region 15 with fail;refine bN a [] (λ_ _=>a1) (λ_ _=>emp) (λ_=>[]) (λ|1=>[0]|3=>[0]|_=>[]) (λ_=>[]) [0,1,2] (λo=>?_);refine p0 ?_;refine sU 0 c ?_;refine p0 ?_;refine sU 0 c ?_;refine bF ?_;refine bU λxS a=>?_;go_upto_region 16 with fail;refine cm ?_;refine mK ?_;refine pt a 0 c ?_;refine ag ?_;refine mK ?_;refine pt a 0 c ?_;refine mK ?_;refine pt a 0 c ?_;iterate 3 refine pu ?_
      refine ag ?_;refine an ?_;go_upto_region 17 with fail;refine cm ?_;refine ag ?_;refine mK ?_;refine pt a 0 c ?_;refine pu ?_;refine mK ?_;refine pt a 0 c ?_;refine ag ?_;refine mK ?_;refine pt a 0 c ?_;iterate 3 refine pu ?_
      refine ag ?_;refine an ?_;go_upto_region 18 with fail;refine bN a [3,5,8] (λi _=>match i with|3=>cd (kS (f[4]?.getD 0) 26)|5=>cd (kS (f[4]?.getD 0) 21)|8=>cd (kS (f[4]?.getD 0) 7)|_=>a1) (λ_ _=>emp) (λ_=>[]) (λ|1=>[0]|18=>[1]|_=>[]) (λ_=>[]) [0,1,2,6,8,11] (λo=>?_);refine p0 ?_;refine sU 0 c ?_;refine aK ?_;refine dD (λ_ _ _=>qn _ (-6) 26 _ bf) ?_;refine aK ?_;refine dD (λ_ _ _=>qn _ (-11) 21 _ bf) ?_;refine p2 ?_;refine aK ?_;refine dD (λ_ _ _=>qn _ (-25) 7 _ bf) ?_;iterate 2 refine p2 ?_
      refine aK ?_;refine p2 ?_;refine aK ?_;refine p2 ?_;refine aK ?_;refine aN (J R (k:Int)) (λ_ _ _=>Em 3 (bj 153) (qB (J R 15)) 3 aa q aa aa ad k ad) ?_;refine p0 ?_;refine sU 0 M ?_;refine p2 ?_;refine aK ?_;refine bU λBa a=>?_;replace a:=a.drop 3;replace a:=a.drop 3;replace a:=a.drop 3;go_upto_region 19 with fail;refine cm ?_;refine ag ?_;refine bH (qn _ (-2) 30 _ bf) a (λBb a=>?_);refine ag ?_;refine bH (qn _ (-13) 19 _ bf) a (λDk a=>?_);refine pu ?_;refine ag ?_;refine bH (qn _ (-22) 10 _ bf) a (λGb a=>?_);refine pu ?_;refine ag ?_;refine pu ?_;refine ag ?_;refine an ?_;go_upto_region 20 with fail;refine bN a [2] (λi _=>match i with|2=>J R 7|_=>a1) (λ_=>λ|2=>aj L (aZ cd (A2 f) []) 352|_=>emp) (λ|2=>[0]|_=>[]) (λ_=>[]) (λ_=>[]) [1,2,5] (λo=>?_);refine bF ?_;refine HA (J R 7) (λ_ _ a=>Y1 ((f.take 7).map cd) aa aa aa (a.aX 0) (λj v O=>Y2 (a.aX 0) c O) (n:=7) (by simp[c.out]) (ae9 c) aa (by rw[kr,c];decide) (λv hv=>by obtain⟨x,_,rfl⟩:=fL.1 hv;rfl) aa ay) ?_;refine bU λNJ a=>?_;go_upto_region 21 with fail;refine cm ?_;refine mK ?_;refine pt a 2 (Da c) ?_;refine ag ?_;refine pu ?_;refine mK ?_;refine FK a 2 (Da c) (λNK a=>?_);refine an ?_;go_upto_region 22 with fail;refine cm ?_;refine v2 ?_;refine pu ?_;refine mK ?_;refine FK a 2 (wN.trans (Da c)) (λNL a=>?_);refine an ?_;go_wp2_with fail;go_roundw;case rel=>exact⟨q+1,ad,by go_num,by rw[vY,Jc,y.1,y.2,N,hx0];exact a.pick [2,0,1]⟩
      case measure=>simp[cy];omega
    .obtain rfl:q=64:=ad;replace a:=a.drop 1;go_upto_region 24 with fail;refine cm ?_;refine Nb a 0 c ?_;refine ag ?_;refine Lv ?_;go_loopw [182] (λh wr=>∃q:Nat,q<=8/\h=J R q/\ak w (λb=>b=B) wr [aj B (aZ cd (A7 f ws q) [s,J R n]) t]) (λh wr=>8 -(cy h).toNat);case atStart=>exact⟨0,cF _,aa,a.drop 0⟩
     case round=>
      clear a;obtain⟨q,T,rfl,a⟩:=hrel;by_cases hlt:q<8
      .have S:(q:Int)<8:=ad;go_upto_region 26 with fail;refine cm ?_;refine ag ?_;refine aI (cd (f[q]?.getD 0)) (Tj 352 315 8 (bj 181) (bj 182) aa underlying352 ay ay cd f q aa aa hlt c) ?_;refine v2 ?_;refine an ?_;go_upto_region 27 with fail;refine bN a [11] (λ_ _=>a1) (λ_=>λ|11=>aj B (aZ cd ((A7 f ws q).set q (a32 ((A7 f ws q)[q]?.getD 0) (f[q]?.getD 0))) [s,J R n]) t|_=>emp) (λ|11=>[0]|_=>[]) (λ|5=>[0]|_=>[]) (λ_=>[]) [12] (λo=>?_);refine hD ?_;refine p0 ?_;refine sU 0 (Nw u q) ?_;refine aK ?_;refine p2 ?_;refine bF ?_;refine p0 ?_;refine RG (Nw u q) ?_;refine bU λNM a=>?_;go_wp2_with fail;go_roundw;case rel=>exact⟨q+1,ad,by go_num,a⟩
       case measure=>simp[cy];omega
      .obtain rfl:q=8:=ad;refine dN ?_;refine⟨aa,a.only,?_⟩;rw[En,y.2];exact a.aX 0
end
open Go.RowKit Go.MapKept
def pT(ws:List Int)(l:List Int):List Int×List Int:=if 64<=l.length then pT (En ws (l.take 64)) (l.drop 64)else(ws,l)
termination_by l.length
decreasing_by grind
theorem K1{ws l}(h:64<=l.length):pT ws l=pT (En ws (l.take 64)) (l.drop 64):=by grind[pT]
def K2{ws l}(h:¬64<=l.length):pT ws l=(ws,l):=by grind[pT]
def Yc(ws l)(h:ws.length=8):(pT ws l).1.length=8/\(pT ws l).2.length<64/\(pT ws l).2.length<=l.length:=by
 by_cases h1:64<=l.length;·rw[K1 h1];have:=Yc (En ws (l.take 64)) (l.drop 64) (Eo h);rw[tP]at this;omega
 .rw[K2 h1];exact⟨h,by show l.length<64;omega,b4 _⟩
termination_by l.length
decreasing_by grind
def Yb(ws l x):pT ws (l++x)=pT (pT ws l).1 ((pT ws l).2++x):=by
 by_cases h1:64<=l.length;·rw[K1 h1,K1 (by rw[c'];omega),List.take_append_of_le_length h1,List.drop_append_of_le_length h1];exact Yb _ _ _
 .rw[K2 h1]
termination_by l.length
decreasing_by grind
def y7:List Int:=[1779033703,3144134277,1013904242,2773480762,1359893119,2600822924,528734635,1541459225]
def iY(msg:List Int):List Int×List Int:=pT y7 msg
def C' msg:(iY msg).1.length=8/\(iY msg).2.length<64/\(iY msg).2.length<=msg.length:=Yc _ _ aa
def iO(t B:Nat)(A:Option bQ)(msg:List Int):bp:=⟨λb=>b=B\/eb A b,λw=>t≠5/\∃c,aU w B (aZ cd (iY msg).1 [ae A (iY msg).2.length c,J R (msg.length:Int)]) t/\eZ 0 w A (iY msg).2.length c 5 ((iY msg).2.map bb),λw w' h a ⟨e,c,h1,d⟩=>
 ⟨e,c,(h B (bM aa) (a B (bM aa))).trans h1,(ww A _ c 5 _).nO w w' (λb hb=>h b (b8 hb)) (λb hb=>a b (b8 hb)) d⟩⟩
abbrev iy(B:Nat)(A:Option bQ)(msg:List Int):bp:=iO 357 B A msg
def iO.split{aq w FX l t B A msg}(h:ak aq FX w (iO t B A msg::l)):∃c,ak aq FX w (aj B (aZ cd (iY msg).1 [ae A (iY msg).2.length c,J R (msg.length:Int)]) t::ww A (iY msg).2.length c 5 ((iY msg).2.map bb)::l):=by obtain⟨d,c,h1,a⟩:=h.at 0;exact⟨c,(h.as 0 aa (both (aj B _ t) (ww A _ c 5 _)) (λ_=>⟨h1,a,λb hb hb2=>eZ.asg a h1 d ((show b=B from hb)▸hb2)⟩) (λ_ hb=>hb)).fi⟩
def iO.close{aq w FX l}{t B c:Nat}{A msg}(a:t≠5)(h:ak aq FX w (aj B (aZ cd (iY msg).1 [ae A (iY msg).2.length c,J R (msg.length:Int)]) t::ww A (iY msg).2.length c 5 ((iY msg).2.map bb)::l)):ak aq FX w (iO t B A msg::l):=
 h.star.as 0 aa (iO t B A msg) (λh=>⟨a,c,h.1,h.2.1⟩) (λ_ hb=>hb)
def Uf(w:aM)(B:Nat):Nat:=match w.cell? ⟨B,8,af⟩with
 |some (ae _ n _)=>n
 |_=>0
def aeA{w B n c A}(h:w.cell? ⟨B,8,af⟩=ab (ae A n c)):Uf w B=n:=by grind[Uf]
def Te{A c i sz b}(h:eb (fF A c i sz) b):eb A b:=by
 obtain⟨off,d,e⟩:=h;unfold fF at e;split at e;·exact⟨_,d,e⟩
 .cases A with
  |none=>grind
  |some a=>
   simp at e;obtain⟨b0,f,g⟩:=a;have:b0=b:=by grind[wb]
   subst this;exact⟨_,_,aa⟩
def take_at(B t)(A aJ)c2(msg bs)w(I:msg.length+bs.length<=70368744177664)(hst:Has w (iO t B A msg))(hb:bX w aJ bs)(hne:∀b off,aJ=ab ⟨b,off,af⟩->¬(iO t B A msg).cR b):
 aD aw 241 #[ax (ab ⟨B,0,af⟩),ae aJ bs.length c2] w λe w'=>e=aB (bm #[])/\∃D,Turned w w' (iO t B A msg) (iO t B D (msg++bs)):=by
 have C:=hst.1.1;obtain⟨bZ,o⟩:=iO.split (ak.start hst);have hlen:=C' msg;obtain⟨ws,s⟩:=ex (iY msg).1;obtain⟨rs,r⟩:=ex (iY msg).2;rw[s,r]at o hlen;have v:=hid (And.intro s r);have m:=hid hlen;have E:=hid hb;have N:=hid I;obtain⟨u,z⟩:=ex (msg++bs).length;have S:msg.length+bs.length=u:=aF;have F:=hid z;clear z hb s r hst;go_enter func241,ntmps241;have a:=o;clear o;go_step;refine ah ?_;refine v3 ?_;refine pl a 0 9 ?_ (hv:=sJ (k:=1) m.1 aa);refine v2 ?_;refine pad _ _ (u:Int) ?_;refine v2 ?_;refine a' a 0 (J _ _) (λw1 a=>?_) (hk:=KX m.1 (of_decide_eq_true aa)) (hc:=KZ (k:=1) m.1);refine an ?_;go_step;refine ah ?_;refine v4 ?_;refine pl a 0 8 ?_ (hv:=sJ (k:=0) m.1 aa);refine ag ?_;refine adV a 1 (awA 1 aa aa aa (a.at 1) (bX.cells (E.out.only a.only hne)) Yx ad bf dL aY) (λM P T a=>?_);refine v2 ?_;refine a' a 0 (ae _ _ _) (λU a=>?_) (hk:=KX m.1 (of_decide_eq_true aa)) (hc:=KZ (k:=0) m.1);refine an ?_;rw[<-c',<-gp]at a;have y:pT ws (rs++bs)=iY (msg++bs):=by rw[<-v.1,<-v.2];exact(Yb _ _ bs).symm
 have O:=hid y;clear y;go_wp2_with fail;go_loopw [] (λwr=>∃(n l:List Int) (f:Option bQ) (d:Nat),aE (n.length=8/\pT n l=iY (msg++bs))/\ak w (iO t B A msg).cR wr [aj B (aZ cd (n) [ae f l.length d,J R (u:Int)]) t,ww f l.length d 5 (l.map bb)]) (λwr=>Uf wr B);case atStart=>grind
 case round=>
  clear a;obtain⟨n,l,f,d,x,a⟩:=hrel;have g:=hid x.1;have Q:=eZ.cap (a.at (t:=_) 1);by_cases p:64<=l.length
  .have G:(64:Int)<=(l.length:Int):=ad;have K:=aeA (aU.cell (a.aX 0) 8 (sJ (k:=0) g aa));go_step;refine ah ?_;refine v3 ?_;refine pl a 0 8 ?_ (hv:=sJ (k:=0) g aa);refine ag ?_;refine bu (ai az) ?_;refine an ?_;go_step;refine ah ?_;refine v4 ?_;refine pl a 0 8 ?_ (hv:=sJ (k:=0) g aa);refine aI (ae f 64 d) (qt 22 5 1 (bj 32) (qB (J R 64)) aa dL aY f _ d 64 aa aa ad) ?_;refine aP (alr B t n _ _ f d (l.take 64) _ C g aF (bX.Dl (eZ.nZ (a.at (t:=_) 1)).1 p) (λoff L e=>a.ne (i:=0) (j:=1) aa aa bf B aa ⟨_,L,e⟩) (a.aX 0)) ?_;rintro e V ⟨rfl,H,hb⟩;replace a:=a.ek 0 (vt H hb);refine aQ ?_;refine an ?_;go_step;refine ah ?_;refine v4 ?_;refine pl a 0 8 ?_ (hv:=sJ (k:=0) (Eo g) aa);refine aI (ae (fF f d 64 1) (l.length -64) (d -64)) (Us 22 5 1 (bj 39) (qB (J R 64)) aa dL aY f _ d 64 aa aa ad ad) ?_;refine v2 ?_;refine a' a 0 (ae _ _ _) (λW a=>?_) (hk:=KX (Eo g) (of_decide_eq_true aa)) (hc:=KZ (k:=0) (Eo g));refine an ?_;go_wp2_with fail;go_roundw
   case rel=>
    replace a:=a.as 1 aa (ww _ _ _ 5 _) (λh=>by have q:=eZ.drop h p;rwa [<-tP,<-List.map_drop]at q) (λb hb=>Te hb);grind[hid,Eo,K1]
   case measure=>rw[aeA (aU.cell (a.aX 0) 8 (sJ (k:=0) (Eo g) aa)),K];omega
  .have G:¬(64:Int)<=(l.length:Int):=ad;go_step;refine ah ?_;refine v3 ?_;refine pl a 0 8 ?_ (hv:=sJ (k:=0) g aa);refine ag ?_;refine bu (ai ao) ?_;refine an ?_;go_wp2_with fail;first|go_end0|refine bodyPost_ret (results_none rfl _ _ _) rfl ?_
   have hz:=x.2;rw[K2 p]at hz;refine⟨aa,f,ak.fM (iO.close (l:=[]) C (msg:=_) (c:=d) ?_) 0⟩;rw[<-hz,F];exact a
def aqN:y7.length=8:=rfl
def avb:iY []=(y7,[]):=by rw[iY,K2 bf]
def aqD w:
 aD aw 240 #[] w λe w'=>e=aB (av (aZ cd y7 [ae af 0 0,J R 0]))/\ar w w':=by
 go_enter func240,ntmps240;have a:=bc w;go_step;refine ah ?_;refine bA a (aZ cd (eU 8 0) _) (λb w1 a=>?_);refine ah ?_;refine pk (av (aZ cd y7 [])) ?_;refine pk (av (aZ cd y7 [ae af 0 0,J R 0])) ?_;refine M7 a 0 (pN ..) aqN (λc a=>?_);refine an ?_;go_wp2_with fail;refine dp (v:=av (aZ cd y7 [ae af 0 0,J R 0])) (jd aa _ _ _ _ _ _ _ aa (a.aX 0) Wi aa aY) aa (⟨aa,a.only⟩)
def AR w:
 aD aw 162 #[] w λe w'=>∃B,e=aB (ax (ab ⟨B,0,af⟩))/\cf w w' (iy B af []):=by
 go_enter func162,ntmps162;have a:=bc w;go_step;refine ah ?_;refine en ?_;refine bH (aqD _) a (λw1 a=>?_);refine pk (av (aZ cd y7 [ae af 0 0,J R 0])) ?_;refine bG a (av _) (λd f a=>?_);refine Jy ?_;exact⟨d,aa,(iO.close (t:=357) (msg:=[]) (A:=af) (c:=0) (l:=[]) bf (by rw[avb];exact((a.as 0 aa (both (aj d (aZ cd y7 [ae af 0 0,J R 0]) 357) (ww af 0 0 5 [])) (λh=>⟨h,eZ.nil _ _ _,λ_ _ ⟨_,_,h⟩=>aF⟩) (λb hb=>hb.elim id (λ⟨_,_,h⟩=>aF))).fi))).fresh 0⟩
def ami(B t)A msg w(x:msg.length<=70368744177664)(hst:(iO t B A msg).p w):
 aD aw 242 #[ax (ab ⟨B,0,af⟩)] w λe w'=>∃m o,e=aB (av (aZ cd (iY msg).1 [ae m (iY msg).2.length o,J R (msg.length:Int)]))/\cf w w' (ww m (iY msg).2.length o 5 ((iY msg).2.map bb)):=by
 obtain⟨y,bZ,j,l⟩:=hst;have hlen:=C' msg;obtain⟨ws,i⟩:=ex (iY msg).1;obtain⟨rs,c⟩:=ex (iY msg).2;rw[i,c]at j hlen;rw[c]at l;have u:=hid (And.intro i c);have b:=hid hlen;have q:=hid (eZ.nZ l).1;have n:=hid j;rw[i,c];clear i c hlen l j;go_enter func242,ntmps242;have a:=bc w;go_step;refine ah ?_;refine bA a (aZ cd (eU 8 0) _) (λr w1 a=>?_);refine hE ?_;refine aI (av (aZ cd ws [ae A rs.length bZ,J R (msg.length:Int)])) (art 354 (bj 5) aa B aa (au.heap a.only n.out (λh=>h)) Wi aa (by rw[kr,b.1];rfl)) ?_;refine bA a (aZ cd (eU 8 0) _) (λs z a=>?_);refine M7 a 0 (pN ..) b.1 (λC a=>?_);refine jz ?_;refine aI (ae A rs.length bZ) (fw aa aa (au.heap a.only n.out (λh=>h)) (sJ (k:=0) b.out.1 aa) ay) ?_;refine aP (wZ A bZ rs _ (q.out.aG a.only) (by have:=b.out;omega)) ?_;rintro e D ⟨d,f,rfl,hrow,g⟩;replace a:=a.k9 g hrow;refine aQ ?_;refine ag ?_;refine a' a 1 (ae d _ f) (λE a=>?_) (hk:=KX b.1 (of_decide_eq_true aa)) (hc:=KZ (k:=0) b.1);refine ah ?_;refine bh a 1 (aZ cd ws [ae d rs.length f,J R (msg.length:Int)]) ?_ (hv:=(eW _)) (hk:=by omega) (hz:=(by rw[kr,b.1];rfl));refine M7 a 2 (pN ..) b.1 (λF a=>?_);refine an ?_;go_wp2_with fail;refine dp (v:=_) (jd aa _ _ _ _ _ _ _ aa (a.aX 2) Wi aa (by rw[kr,b.1];rfl)) aa (⟨d,f,aa,(a.as 0 aa (ww d _ f 5 _) eZ.ofRow (λ_ h=>h)).fresh 0⟩)
def xu(n i:Nat):Int:=d'.wrap ((n:Int).fdiv (2^(8*i)))
def TY(a:Nat):Nat:=(119 -a)%64
def vx(n:Nat)(r:Nat):List Int:=(dG (8 -r)).map (λj=>xu n (7 -j))
def anz{n i}(h:i<8):vx n i=vx n (i+1)++[xu n i]:=by unfold vx;rw[show 8 -i=(8 -(i+1))+1 by omega,pQ,gp,jM,kp,show 7 -(8 -(i+1))=i by omega]
def rT(msg:List Int):List Int:=128::(eU (TY (iY msg).2.length) 0++vx (msg.length*8) 0)
def anx msg:(rT msg).length=1+TY (iY msg).2.length+8:=by grind[rT,vx]
def pq(W:List Int)(i:Nat):Int:=d'.wrap ((W[i/4]?.getD 0).fdiv (2^(24 -i%4*8)))
def zc(W:List Int):Nat->List Int
 |0=>eU 32 0
 |i+1=>(zc W i).set i (pq W i)
def FG W:∀q,(zc W q).length=32
 |0=>pN ..
 |q+1=>by rw[zc,wN];exact FG W q
def gz(msg:List Int):List Int:=zc (iY (msg++rT msg)).1 32
theorem sT msg:(gz msg).length=32:=FG _ _
def finish_at(B t)A msg w(hm:msg.length<=35184372088832)(hst:Has w (iO t B A msg)):
 aD aw 243 #[ax (ab ⟨B,0,af⟩)] w λe w'=>e=aB (av (aZ bb (gz msg) []))/\Turned w w' (iO t B A msg) emp:=by
 have ht:=hst.1.1;obtain⟨bZ,E⟩:=iO.split (ak.start hst);have hlen:=C' msg;obtain⟨ws,M⟩:=ex (iY msg).1;obtain⟨rs,s⟩:=ex (iY msg).2;rw[M,s]at E hlen;obtain⟨f,G⟩:=ex (TY rs.length);have apt:(119 -rs.length)%64=f:=G;have azP:f<64:=ad;obtain⟨d,H⟩:=ex msg.length;have uu:d<=35184372088832:=ad;have L:=anx msg;rw[s,G]at L;have Q:rT msg=128::(eU f 0++vx (d*8) 0):=by rw[rT,s,G,H]
 have D:=hid (And.intro M (And.intro s H));have N:=hid hlen;have az9:=hlen.2.1;have C:=hid (And.intro L Q);rw[H]at E;clear M s hlen H L Q G hst;go_enter func243,ntmps243;have a:=E;clear E;go_upto_region 0 with fail;refine cm ?_;refine bA a (aZ bb (eU 32 0) []) (λI w1 a=>?_);refine an ?_;have aqp:aH.wrap (d:Int)=(d:Int):=by simp[DL,JT,DK];omega
 have aqn:aH.wrap ((d:Int)*8)=((d*8:Nat):Int):=by simp[DL,JT,DK];omega
 go_upto_region 1 with fail;refine cm ?_;refine v3 ?_;refine pl a 1 9 ?_ (hv:=sJ (k:=1) N.1 aa);refine aI (J aH (d:Int)) (by(show _=_;go_simp;try rw[aqp])) ?_;refine aI (J aH ((d*8:Nat):Int)) (by(show _=_;go_simp;try rw[aqn])) ?_;refine pk (J aH ((d*8:Nat):Int)) ?_;refine an ?_;go_upto_region 2 with fail;refine cm ?_;refine fC a #[J d' 128] 5 (λeQ aW a=>?_);refine v3 ?_;refine pl a 2 8 ?_ (hv:=sJ (k:=0) N.1 aa);refine ag ?_;refine lH 119 (rs.length:Int) ((119 -rs.length:Nat):Int) ?_;refine aI (J R ((f:Nat):Int)) (Rg 3 (bj 20) (qB (J R 64)) 3 aa (119 -rs.length) 64 f aa aa bf apt ad) ?_;replace a:=a.A9 0 1 1 1 [bb 128] aa (b4 _) bf aa;refine adV a 0 (ak8 1 R (bb 0) aa aa aa (a.atR 0) ad bf dL jJ ay aa) (λX wX bI a=>?_);have dN:[bb 128]++eU f (bb 0)=(128::(eU f 0++vx (d*8) 8)).map bb:=by simp[vx]
 rw[dN]at a;clear dN;refine ag ?_;refine an ?_;go_upto_region 3 with fail;refine cm ?_;refine ag ?_;refine an ?_;go_wp2_with fail;go_loopw [4,5] (λev n wr=>∃(r z:Nat) (x:Int) (h:Option bQ) (p:Nat),(r<=8/\z+r=8/\x+1=(r:Int))/\n=J R x/\ev=ae h (1+f+z) p/\ak w (iO t B A msg).cR wr [bk h (1+f+z) p 5 1 ((128::(eU f 0++vx (d*8) r)).map bb),aj I (aZ bb (eU 32 0) []) 23,aj B (aZ cd (ws) [ae A rs.length bZ,J R (d:Int)]) t,ww A rs.length bZ 5 (rs.map bb)]) (λ_ n _=>(cy n+1).toNat);case atStart=>exact⟨8,0,7,X,wX,ad,aa,aa,a⟩
 case round=>
  clear a;obtain⟨r,z,x,h,p,⟨ap5,acA,apf⟩,rfl,rfl,a⟩:=hrel;obtain rfl|⟨i,rfl⟩:r=0\/∃i,r=i+1:=by cases r;exact bM aa;exact b8 ⟨_,aa⟩
  .obtain rfl:x=-1:=ad;obtain rfl:z=8:=ad;replace a:=iO.close (msg:=msg) (c:=bZ) ht (l:=[bk h (rT msg).length p 5 1 ((rT msg).map bb),aj I (aZ bb (eU 32 0) []) 23]) (by rw[D.out.1,D.out.2.1,D.out.2.2,C.out.1,C.out.2];exact a.pick [2,3,0,1]);have e4:aE (∀W,Has W (iO t B A msg)->bX W h (rT msg)->(∀b off,h=ab ⟨b,off,af⟩->¬(iO t B A msg).cR b)->aD aw 241 #[ax (ab ⟨B,0,af⟩),ae h (1+f+8) p] W λe w'=>e=aB (bm #[])/\∃U,Turned W w' (iO t B A msg) (iO t B U (msg++rT msg))):=hid (λW h1 h2 h3=>by rw[<-C.1];exact take_at B t A h p msg (rT msg) W (by have:=C.1;have:=D.2.2;omega) h1 h2 h3);go_upto_region 7 with fail;refine cm ?_;refine v2 ?_;refine aP (e4 _ (a.has 0) (Row.nZ (a.atR 1)).1 (λb off e=>a.ne (i:=1) (j:=0) aa aa bf b ⟨off,af,e⟩)) ?_;rintro e cc ⟨rfl,Y,bL⟩;replace a:=a.ek 0 bL;refine aQ ?_;refine an ?_;obtain⟨sP,K⟩:=iO.split a;obtain⟨g,F⟩:=ex (iY (msg++rT msg)).1;have P:g.length=8:=by rw[<-F];exact(C' _).1
   rw[F]at K;replace a:=K.pk [0,3];have ajJ:=hid P;have ajK:=hid F;clear P F K;obtain⟨akp,O⟩:=ex (ae Y (iY (msg++rT msg)).2.length sP);obtain⟨n9,S⟩:=ex (J R ((msg++rT msg).length:Int));rw[O,S]at a;clear O S;go_upto_region 8 with fail;refine cm ?_;refine bA a (aZ bb (zc g 0) []) (λZ cJ a=>?_);refine an ?_;go_upto_region 9 with fail;refine cm ?_;refine ag ?_;refine an ?_;go_wp2_with fail;go_loopw [38] (λn wr=>∃q:Nat,q<=32/\n=J R q/\ak w (iO t B A msg).cR wr [aj Z (aZ bb (zc g q) []) 23,aj B (aZ cd (g) [akp,n9]) t,aj I (aZ bb (eU 32 0) []) 23]) (λn wr=>32 -(cy n).toNat);case atStart=>exact⟨0,ad,aa,a⟩
   case round=>
    clear a;obtain⟨q,hq,rfl,a⟩:=hrel;by_cases hlt:q<32
    .have cN:(q:Int)<32:=ad;obtain⟨oN,T⟩:=ex (q/4);have aAk:oN<8:=ad;obtain⟨o,hr4⟩:=ex (q%4);have az8:o<4:=ad;obtain⟨y,Iu⟩:=ex (24 -o*8);have ap9:y<=32:=ad;go_upto_region 11 with fail;refine cm ?_;refine v2 ?_;refine an ?_;go_upto_region 12 with fail;refine cm ?_;refine v3 ?_;refine aI (J R (oN:Int)) (Ac 3 (bj 43) (qB (J R 4)) 3 aa q 4 oN aa aa bf T ad) ?_;refine v2 ?_;refine mK ?_;refine pt a 1 ajJ ?_;refine ag ?_;refine aI (J R (o:Int)) (Rg 3 (bj 49) (qB (J R 4)) 3 aa q 4 o aa aa bf hr4 ad) ?_;refine I4 (o:Int) 8 ((o*8:Nat):Int) ?_;refine lH 24 ((o*8:Nat):Int) (y:Int) ?_;refine aI (cd ((g[oN]?.getD 0).fdiv (2^y))) (BZ 315 (bj 48) (bj 52) 3 aa wi R _ y aa aa ap9) ?_;refine pk (bb (d'.wrap ((g[oN]?.getD 0).fdiv (2^y)))) ?_;refine mK ?_;refine FK a 0 (FG ..) (λc5 a=>?_);refine an ?_;go_wp2_with fail;go_roundw;case rel=>exact⟨q+1,ad,by go_num,by rw[zc,pq,T,hr4,Iu];exact a.pick [0,1,2]⟩
     case measure=>simp[cy];omega
    .have ao6:gz msg=zc g q:=by rw[gz,ajK,show q=32 by omega]
     have cN:¬((q:Int)<32):=ad;go_upto_region 14 with fail;refine cm ?_;refine Nb a 0 (FG ..) ?_;refine C4 a 2 (pN ..) (FG ..) (λdK a=>?_);refine an ?_;go_wp2_with fail;refine dp (v:=av (aZ bb (zc g q) [])) (jd aa _ _ _ _ _ _ _ aa (a.aX 2) tB aa (by rw[kr,(FG ..)];rfl)) aa (⟨by first|rfl|rw[ao6],a.dN.fM 0⟩)
  .obtain rfl:x=(i:Int):=ad;have Sw:8*i<=64:=ad;go_upto_region 6 with fail;refine cm ?_;refine v3 ?_;refine I4 8 (i:Int) ((8*i:Nat):Int) ?_;refine aI (J aH (((d*8:Nat):Int).fdiv (2^(8*i)))) (BZ 42 (bj 28) (bj 30) 3 aa aH R _ (8*i) aa aa Sw) ?_;refine pk (bb (xu (d*8) i)) ?_;refine fC a #[bb (xu (d*8) i)] 5 (λgS dz a=>?_);refine lZ (m:=1) a 1 1 (aU.cellsOf (m:=1) (a.aX 0) aa) (by intro u hu;rw[wO.1 hu];rfl) (λV Ld eY a=>?_);refine ag ?_;refine an ?_;go_upto_region 5 with fail;refine cm ?_;refine ag ?_;refine lH (i:Int) 1 ((i:Int) -1) ?_;refine ag ?_;refine an ?_;go_wp2_with fail;go_roundw;case rel=>exact⟨i,z+1,(i:Int) -1,V,Ld,ad,by go_num,aa,by rw[anz ad,show(128::(eU f 0++(vx (d*8) (i+1)++[xu (d*8) i]))).map bb=((128::(eU f 0++vx (d*8) (i+1))).map bb++([bb (xu (d*8) i)])) by simp];exact a.pick [1,2,3,4]⟩
   case measure=>simp[cy]<;>omega
attribute [irreducible] gz rT
theorem avN(B t)A msg w(l:msg.length<=35184372088832)(hst:(iO t B A msg).p w)(c:∀b,(iO t B A msg).cR b->b<w.heap.size):
 aD aw 164 #[ax (ab ⟨B,0,af⟩)] w λe w'=>e=aB (av (aZ bb (gz msg) []))/\ar w w':=by
 have i:=hid (λW (g:ar w W)=>bp.only _ hst c g (λ_ _ h=>h));clear hst c;go_enter func164,ntmps164;have a:=bc w;go_step;refine ah ?_;refine bA a (aZ bb (eU 32 0) []) (λm w1 a=>?_);refine ah ?_;refine v2 ?_;refine jz ?_;refine aP (ami B t A msg _ ad (i.out _ a.only)) ?_;rintro e o ⟨d,n,rfl,k⟩;replace a:=a.new _ k;refine aQ ?_;refine bA a (aZ cd (eU 8 0) _) (λf q a=>?_);refine M7 a 0 (pN ..) (C' _).1 (λr a=>?_);refine an ?_;replace a:=iO.close (t:=_) bf a;refine ah ?_;refine aP (finish_at f 354 d msg _ l (a.has 0)) ?_;rintro e s ⟨rfl,j⟩;replace a:=a.ek 0 j;refine aQ ?_;refine C4 a 1 (pN ..) (sT _) (λu a=>?_);refine an ?_;go_wp2_with fail;refine dp (v:=_) (jd aa _ _ _ _ _ _ _ aa (a.aX 1) tB aa (by rw[kr,(sT _)];rfl)) aa (⟨aa,a.only⟩)
theorem iO.low{w t B A msg}(h:(iO t B A msg).p w):∀b,(iO t B A msg).cR b->b<w.heap.size:=λb hb=>by
 obtain⟨_,c,h1,a⟩:=h;rcases hb with rfl|hb;·grind
 .exact(eZ.lt a hb).2
def zj B A msg w(a:msg.length<=35184372088832)(h:(iy B A msg).p w):
 aD aw 164 #[ax (ab ⟨B,0,af⟩)] w λe w'=>e=aB (av (aZ bb (gz msg) []))/\ar w w':=by grind[avN,iO.low]
def af7(B o l D)(A aJ)c2(msg bs)w(F:msg.length+bs.length<=70368744177664)(hst:Has w (iy B A msg))(hcell:w.cell? ⟨o,l,af⟩=ab (ae aJ bs.length c2))(hb:bX w aJ bs)(hne:∀b off,aJ=ab ⟨b,off,af⟩->¬(iy B A msg).cR b):
 aD aw 163 #[ax (ab ⟨B,0,af⟩),ae (ab ⟨o,l,af⟩) 1 D] w λe w'=>∃d,e=aB (J R (bs.length:Int))/\Turned w w' (iy B A msg) (iy B d (msg++bs)):=by
 have v:=hid hcell;have s:=hid hb;have z:=hid hne;obtain⟨f,p⟩:=ex ((msg.length:Int));have L:0<=f/\f<=70368744177664:=ad;obtain⟨I,r⟩:=ex (((msg++bs).length:Int));have cz:I -f=(bs.length:Int):=aF;have C:=hid r;have y:=hid p;clear hcell hb hne r p;go_enter func163,ntmps163;have a:=ak.start hst;go_upto_region 0 with fail;refine cm ?_;refine ag ?_;refine ah ?_;refine dZ ?_;obtain⟨_,bZ,c,_⟩:=a.at (t:=iO 357 B _ _) 0;rw[y]at c;refine n3 ?_;refine aI (J R f) (fw aa aa c (sJ (k:=1) (C' msg).1 aa) ay) ?_;refine bP ?_;clear c;refine ah ?_;refine v3 ?_;refine an ?_;go_wp2_with fail;go_loopw [17] (λi wr=>∃(q:Nat) (d:Option bQ) (j:List Int),q<=1/\i=J R q/\aE (q=0/\d=A/\j=msg/\wr=w\/q=1/\j=msg++bs)/\ak w (iy B A msg).cR wr [iy B d j]) (λi _=>1 -(cy i).toNat);case atStart=>grind[hid]
 case round=>
  clear a;obtain⟨q,m,H,M,rfl,n,a⟩:=hrel;by_cases hlt:q<1
  .have G:(q:Int)<1:=ad;obtain⟨rfl,rfl,rfl,g⟩:=n.out.resolve_right (λh=>ad);have x:=hid (g.symm▸v.out);have u:=hid (g.symm▸s.out);clear g;go_upto_region 6 with fail;refine cm ?_;refine aI _ (cq 193 22 1 _ _ aa Tryz.underlying193 ay _ _ _ _ _ l aa aa bf ad) ?_;refine aI _ (po aa aa x ay) ?_;refine xU ?_;refine aP (take_at B 357 m aJ c2 H bs _ F (a.has 0) u.out z.out) ?_;rintro e w1 ⟨rfl,K,E⟩;replace a:=a.ek 0 E;refine Be ?_;go_wp2_with fail;go_roundw;case rel=>grind[hid]
   case measure=>grind[cy]
  .have G:¬(q:Int)<1:=ad;obtain⟨rfl,rfl⟩:=n.out.resolve_left (λh=>ad);obtain⟨_,bZ,c,_⟩:=a.at (t:=iO 357 B _ _) 0;rw[C]at c;go_upto_region 9 with fail;refine cm ?_;refine v4 ?_;refine aI _ (fw aa aa c (sJ (k:=1) (C' _).1 aa) ay) ?_;refine ag ?_;refine aI _ (qQ 3 _ _ 3 aa _ _ _ aa aa cz ad ad) ?_;refine bP ?_;go_wp2_with fail;go_ret;exact⟨aa,m,a.fM 0⟩
def UM(B a c d)(A aJ)c2(msg bs)w(g:msg.length+bs.length<=70368744177664)(hst:Has w (iy B A msg))(hcell:w.cell? ⟨a,c,af⟩=ab (ae aJ bs.length c2))(hb:bX w aJ bs)(hne:∀b,eb aJ b->¬(iy B A msg).cR b):
 aD aw 163 #[ax (ab ⟨B,0,af⟩),ae (ab ⟨a,c,af⟩) 1 d] w λe w'=>∃f,e=aB (J R (bs.length:Int))/\Turned w w' (iy B A msg) (iy B f (msg++bs)):=af7 B a c d A aJ c2 msg bs w g hst hcell hb λb off e=>hne b ⟨off,af,e⟩
def ae8(c d g)aJ c2 bs w(p:bs.length<=35184372088832)(hcell:w.cell? ⟨c,d,af⟩=ab (ae aJ bs.length c2))(hb:bX w aJ bs)(i:∀b off,aJ=ab ⟨b,off,af⟩->b<w.heap.size):
 aD aw 76 #[ae (ab ⟨c,d,af⟩) 1 g] w λe w'=>e=aB (av (aZ bb (gz bs) []))/\ar w w':=by
 have l:=hid hb;have m:=hid hcell;have k:=hid i;have hl2:=p;clear hcell hb i;go_enter func76,ntmps76;have a:=bc w;go_step;refine ah ?_;refine bA a (aZ bb (eU 32 0) []) (λq w1 a=>?_);refine ah ?_;refine aP (AR _) ?_;rintro e s ⟨f,rfl,o⟩;replace a:=a.new _ o;refine aQ ?_;refine mO ?_;refine aP (af7 f c d g af aJ c2 [] bs _ aF (a.has 0) (a.only.cell m.out (λh=>h)) (l.out.aG a.only) (λb off e h=>(a.low _ (rK ..) _ h).2.elim (λr=>absurd (k.out b off e) ad) id)) ?_;rintro e t ⟨j,rfl,n⟩;replace a:=a.ek 0 n;refine aQ ?_;refine b' ?_;refine bH (zj f j bs _ ad (a.at 0)) a (λu a=>?_);refine C4 a 1 (pN ..) (sT bs) (λx a=>?_);refine an ?_;go_wp2_with fail;refine dp (v:=_) (jd aa _ _ _ _ _ _ _ aa (a.aX 1) tB aa (by rw[kr,(sT bs)];rfl)) aa (⟨aa,a.only⟩)
section
section
variable {P:ee} {o:cU} {a:bT} {w:aM}
def afg (t e sz:Nat) (x hi b) (ho:o.op=.slice t x af (ab hi) (ab b)) (d:P.underlying t=ab (iF e)) (f:(P.info? e).map (·.size)=ab sz) A (n c q m:Nat)
 (hx:a.eval x=ae A n c) (yY:a.eval hi=J R (q:Int)) (hmx:a.eval b=J R (m:Int)) (h1:q<=m) (h2:m<=c):
 (bt a.eval o).run P w=a6 (c9 (ae A q m)) w:=by
 cases hq:P.info? e with
 |none=>grind
 |some g=>
  unfold bt;simp[ho,hx,yY,hmx,Instr.sliceAt,Instr.slice,Instr.sliceBounds,Instr.sliceBound,asIntOf,ga,gE d,my,typeInfo,hq,h1,h2];intro _;cases A<;>simp[wb]
def auB w N (t ty e) i z (d:P.underlying t=ab (iF e)) (hi:P.info? e=ab i) (hz:i.zero=ab z) (hsize:i.size=1) (hzs:z.cells.size=1)
 A n xs (hx:Cells w 1 A n xs) aJ (m c2) news (hr:Cells w 1 aJ m news) (h1:∀u∈news,u.oneCell'=az) (hm:0<m)
 (h63:n+m<=eh) (hbytes:(n+m)*i.bytes<=140737488355328) (dU:N<=w.heap.size):
 ∃B c w',(Builtin.append_ #[t,t] ty #[ae A n n,ae aJ m c2]).run P w=a6 (ae (ab ⟨B,0,af⟩) (n+m) c) w'/\Row N w' (ab ⟨B,0,af⟩) (n+m) c e 1 (xs++news)/\ar w w'/\w.heap.size<=B:=by
 have hlx:=by simpa using hx.1
 have j:=by simpa using hr.1
 obtain⟨a,rfl,hnews⟩:=hr.2 hm;have h:Src P i.size t (ae (ab a) m c2) m news w:=Src.ofSlice w d a m c2 news aF hnews h1
 have hold:(Builtin.firstCells i.size n (ae A n n)).run P w.drew=a6 xs.toArray w.drew:=by
  rw[hsize];rcases lL n with b|b
  .subst b;obtain rfl:=j2 hlx;cases A with
   |none=>rfl
   |some a=>rfl
  .obtain⟨a,rfl,hc⟩:=hx.2 b;exact run_firstCells_some _ 1 n a n n xs ad hc
 have hrun:=run_append_grow_src (P:=P) w t t ty e i z d hi hz A n n xs hold _ m news h ad (by grind[eh]) (growslice_fits ad hbytes);have f:=grownCap_ge w (n+m) n e;have g:=grownCap_le_maxLen w _ n e h63;refine⟨_,_,_,hrun,⟨aF,b8 ⟨_,_,_,aa,dU,fz _ _,f,g,?_,?_⟩⟩,ar.trans (au.drew _) (au.alloc _ _),b4 _⟩;·grind[Builtin.zeroCells]
 .grind
def akQ {s x} {t e n m c2:Nat} {A aJ xs news} bytes (ho:o.op=nB {callee:=oR .append,args:=#[s,x],argTypes:=#[t,t]}) (j:a.eval s=ae A n n) (hx:a.eval x=ae aJ m c2) (hown:Cells w 1 A n xs) (hr:Cells w 1 aJ m news) (h1:∀u∈news,u.oneCell'=az) (h:0<m) (hbytes:(n+m)*bytes<=140737488355328) (hb0:0<bytes) (k:P.underlying t=ab (iF e))
 (k3:(P.info? e).map (λi=>(i.zero.isSome,(i.zero.map (·.cells.size)).getD 0,i.size,i.bytes))=ab (az,1,1,bytes)):
 ∃c b w',(bt a.eval o).run P w=a6 (c9 (ae c (n+m) b)) w'/\cf w w' (bk c (n+m) b e 1 (xs++news)):=by
 cases hq:P.info? e with
 |none=>grind
 |some i=>
  rw[hq]at k3;simp only[pR,wR,o3]at k3;obtain⟨bB,bY,d,f⟩:=k3;obtain⟨z,hz⟩:=Option.isSome_iff_exists.1 bB;rw[hz]at bY;simp only[pR,vo]at bY;subst f;have hle:(n+m)<=(n+m)*i.bytes:=zW _ hb0;obtain⟨B,b,w',hrun,h1,g,l⟩:=auB (P:=P) w w.heap.size t o.type e i z k hq hz d bY A n xs hown aJ m c2 news hr h1 h (by grind[eh]) hbytes (b4 _);refine⟨_,b,w',?_,cf.ady g h1⟩;unfold bt;simp only[ho,nD,nC,qF,ga,jK,jc,oo,jM,kp,j,hx,hrun]
def as6 {ops:Array cU} {rest:List cU} {Q:Exit->bT->aM->Prop} {aq:aM} {FX:Nat->Prop} {l:List bp} {d:Option bQ->Nat->bT} {b:Option bQ->Nat->aO} {t:Option bQ->Nat->bp} (e:ak aq FX w l) (hr:∃A c w',(bt a.eval o).run P w=a6 (c9 (b A c)) w'/\cf w w' (t A c)) (h:∀A c w',ak aq FX w' (t A c::l)->cL P ops Q rest (d A c) w')
 (hw:c6 o (yielded ops a.tmps)=true:=by kernel_rfl) (ha:∀A c,a.put o.dst (b A c)=d A c:=by(intro _ _;(try simp only[Act.put,List.setIfInBounds_toArray,List.set_cons_zero,List.set_cons_succ]);rfl)):cL P ops Q (o::rest) a w:=by
 obtain⟨A,c,w',h1,f⟩:=hr;refine wpList_step λK g=>?_;rw[if_pos hw];unfold Oper.wp;rw[h1];show K _ _;rw[ha];exact g _ _ (h A c w' (e.new _ f))
def aqQ(t e sz m:Nat)(x c)g(ho:o.op=DM t x c)(f:P.underlying t=ab (wy m e))(n:(P.info? e).map (·.size)=ab sz)(b off i k:Nat)(hx:a.eval x=ax (ab ⟨b,off,af⟩))(hi:a.eval c=J g (i:Int))(h:i<m)(hk:off+i*sz=k):
 (bt a.eval o).run P w=a6 (c9 (ax (ab ⟨b,k,af⟩))) w:=by
 cases hq:P.info? e with
 |none=>grind
 |some j=>
  have hsz:j.size=sz:=aF;subst hk;have d:(⟨b,off,_⟩:bQ).add (i*sz)=⟨b,_,_⟩:=Addr.add_mid _ _ _;unfold bt;simp[ho,hx,hi,Instr.indexAt,Instr.sureAddr,asIntOf,ga,gE f,my,typeInfo,hq,hsz,d];intro l;omega
def adT {ops:Array cU} {rest:List cU} {Q:Exit->bT->aM->Prop} {d:bT} (h:cL P ops Q rest d w) {f:IntKind} {t e m b i:Nat} {x c:Operand} (ho:o.op=DM t x c:=by rfl) (k:P.underlying t=ab (wy m e):=by rfl) (j:(P.info? e).map (·.size)=ab 1:=by kernel_rfl) (hx:a.eval x=ax (ab ⟨b,0,af⟩):=by rfl) (hi:a.eval c=J f (i:Int):=by rfl) (g:i<m:=by omega) (l:c6 o (yielded ops a.tmps)=true:=by kernel_rfl)
 (ha:a.put o.dst (ax (ab ⟨b,i,af⟩))=d:=by((try simp only[Act.put,List.setIfInBounds_toArray,List.set_cons_zero,List.set_cons_succ]);rfl)):cL P ops Q (o::rest) a w:=ag h l (aqQ t e 1 m x c f ho k j b 0 i i hx hi g ad) ha
end
end
def adk(x:Int):Int:=wi.wrap (0 -x)
def FB(x:Int):Int:=kB 4294967295 x
def CY(x:Int):Nat:=(nw 32 x&&& nw 32 15).toNat
theorem TK x:CY x<16:=by grind[CY,Nat.and_le_right]
def adj x:n32 x 15=((CY x:Nat):Int):=by grind[TK,n32,CY,DL,DK]
def amm(x:Int):Int:=kB (ke x 1) (n32 3988292384 (adk (n32 x 1)))
def B7(x:Int):Nat->Int
 |0=>x
 |i+1=>amm (B7 x i)
def zk:Nat->List Int
 |0=>eU 16 0
 |i+1=>(zk i).set i (B7 (ks (i:Int)) 4)
def Uy:∀q,(zk q).length=16
 |0=>pN ..
 |q+1=>by rw[zk,wN];exact Uy q
def Ai:List Int:=zk 16
def Eu:Ai.length=16:=Uy 16
def amn{q}(h:q=16):zk q=Ai:=by rw[h];rfl
attribute [irreducible] Ai
def avR w:
 aD aw 357 #[] w λe w'=>e=aB (av (aZ cd Ai []))/\ar w w':=by
 go_enter func357,ntmps357;have a:=bc w;go_upto_region 0 with fail;refine cm ?_;refine bA a (aZ cd (eU 16 0) []) (λd w1 a=>?_);refine ah ?_;refine bA a (aZ cd (zk 0) []) (λf r a=>?_);refine ah ?_;refine ag ?_;refine an ?_;go_wp2_with fail;go_loopw [4] (λb wr=>∃q:Nat,q<=16/\b=J R q/\ak w (λ_=>False) wr [aj f (aZ cd (zk q) []) 434,aj d (aZ cd (eU 16 0) []) 434]) (λb wr=>16 -(cy b).toNat);case atStart=>grind
 case round=>
  clear a;obtain⟨q,o,rfl,a⟩:=hrel;by_cases hlt:q<16
  .have l:(q:Int)<16:=ad;go_upto_region 4 with fail;refine cm ?_;refine Dr ?_;refine pk (cd (ks (q:Int))) ?_;refine ag ?_;refine ah ?_;refine ag ?_;refine an ?_;go_wp2_with fail;go_loopw [3,9] (λh c wr=>∃j:Nat,j<=4/\c=J R j/\aE (h=cd (B7 (ks (q:Int)) j))/\ak w (λ_=>False) wr [aj f (aZ cd (zk q) []) 434,aj d (aZ cd (eU 16 0) []) 434]) (λh c wr=>4 -(cy c).toNat);case atStart=>exact⟨0,ad,aa,hid aa,a⟩
   case round=>
    clear a;obtain⟨j,m,rfl,i,a⟩:=hrel;obtain rfl:=i.out;by_cases n:j<4
    .have k:(j:Int)<4:=ad;go_upto_region 8 with fail;refine cm ?_;refine ag ?_;refine pk (cd (ke (B7 (ks (q:Int)) j) 1)) ?_;refine ag ?_;refine pu ?_;refine pk (cd (adk (n32 (B7 (ks (q:Int)) j) 1))) ?_;iterate 2 refine pu ?_
     refine en ?_;refine pad (j:Int) 1 ((j+1:Nat):Int) ?_;refine bP ?_;go_wp2_with fail;go_roundw;case rel=>exact⟨j+1,ad,aa,hid aa,a⟩
     case measure=>simp[cy]<;>omega
    .have k:¬(j:Int)<4:=ad;obtain⟨oN,g⟩:=ex (B7 (ks (q:Int)) j);have p:B7 (ks (q:Int)) 4=oN:=by rw[<-g,show j=4 by omega]
     rw[g];go_upto_region 10 with fail;refine cm ?_;refine v2 ?_;refine mK ?_;refine FK a 0 (Uy ..) (λs a=>?_);refine an ?_;go_wp2_with fail;go_roundw;case rel=>exact⟨q+1,ad,by go_num,by grind[zk]⟩
     case measure=>grind[cy]
  .have l:¬(q:Int)<16:=ad;rw[amn (show q=16 by omega)]at a;go_upto_region 12 with fail;refine cm ?_;refine Nb a 0 Eu ?_;refine C4 a 1 (pN ..) Eu (λt a=>?_);refine an ?_;go_wp2_with fail;refine dp (v:=_) (jd aa _ _ _ _ _ _ _ aa (a.aX 1) underlying434 aa (by rw[kr,Eu];rfl)) aa (⟨aa,a.only⟩)
def Li(r:Int):Int:=kB (ke r 4) (Ai[CY r]?.getD 0)
def Y6(r c:Int):Int:=Li (Li (kB r (ks c)))
def Lj(r:Int)(bs:List Int):Nat->Int
 |0=>r
 |i+1=>Y6 (Lj r bs i) (bs[i]?.getD 0)
def RD(s:Int)(bs:List Int):Int:=FB (Lj (FB s) bs bs.length)
def Hz(bs:List Int):Int:=RD 0 bs
def anT s(o i C)aJ c2 bs w(O:bs.length<=35184372088832)(hcell:w.cell? ⟨o,i,af⟩=ab (ae aJ bs.length c2))(hb:bX w aJ bs):
 aD aw 323 #[cd s,ae (ab ⟨o,i,af⟩) 1 C] w λe w'=>e=aB (cd (RD s bs))/\ar w w':=by
 have z:=hid hb;have l:=hid hcell;obtain⟨gN,hbl⟩:=ex bs.length;have I:gN<=35184372088832:=ad;rw[hbl]at l;have d:=hid hbl;clear hcell hb hbl;go_enter func323,ntmps323;have a:=bc w;go_upto_region 0 with fail;refine cm ?_;refine en ?_;refine bH (avR _) a (λw1 a=>?_);refine bA a (aZ cd (eU 16 0) []) (λk Q a=>?_);refine C4 a 0 (pN ..) Eu (λS a=>?_);refine b' ?_;refine pk (cd (FB s)) ?_;refine ag ?_;refine ah ?_;refine v3 ?_;refine an ?_;go_wp2_with fail;go_loopw [6,16] (λv f wr=>∃q:Nat,q<=1/\f=J R q/\∃r,v=cd r/\aE (q=0/\r=FB s\/q=1/\FB r=RD s bs)/\ak w (λ_=>False) wr [aj k (aZ cd (Ai) []) 434]) (λv f wr=>1 -(cy f).toNat);case atStart=>grind[hid]
 case round=>
  clear a;obtain⟨q,P,rfl,r,rfl,m,a⟩:=hrel;by_cases hlt:q<1
  .have F:(q:Int)<1:=ad;obtain⟨rfl,t⟩:=m.out.resolve_right (λh=>ad);have B:=hid t;clear t;go_upto_region 5 with fail;refine cm ?_;refine aI _ (cq _ 22 1 _ _ aa Tryz.underlying193 ay _ _ _ _ _ i aa aa bf ad) ?_;refine Nd l a.only ?_;refine ag ?_;refine ah ?_;refine v3 ?_;refine an ?_;go_wp2_with fail;go_loopw [6,22] (λx g wr=>∃j:Nat,j<=gN/\g=J R j/\∃b,x=cd b/\aE (b=Lj r bs j)/\ak w (λ_=>False) wr [aj k (aZ cd (Ai) []) 434]) (λx g wr=>gN -(cy g).toNat);case atStart=>exact⟨0,ad,aa,_,aa,hid aa,a⟩
   case round=>
    clear a;obtain⟨j,N,rfl,b,rfl,n,a⟩:=hrel;by_cases p:j<gN
    .have E:(j:Int)<(gN:Int):=ad;obtain⟨H,G,rfl,D⟩:=z (by rw[d];omega);obtain⟨c,hc⟩:=ex (bs[j]?.getD 0);have y:=D j (by rw[d];exact p);rw[hc]at y;have A:=hid hc;clear hc;go_upto_region 8 with fail;refine cm ?_;refine aI _ (cq 22 5 1 _ _ aa dL ay _ _ _ _ _ ((G+j)) aa aa p ad) ?_;refine Nd y a.only ?_;refine mO ?_;refine pk (cd (ks c)) ?_;refine pu ?_;refine bP ?_;obtain⟨df,hx1⟩:=ex (CY (kB b (ks c)));have K:df<16:=by rw[<-hx1];exact TK _
     refine b' ?_;refine pk (cd (ke (kB b (ks c)) 4)) ?_;refine ag ?_;refine aI (J wi (df:Int)) (by(rw[<-hx1,<-adj];show _=_;kernel_rfl)) ?_;refine adT ?_;refine pt a 0 Eu ?_;refine pu ?_;refine bP ?_;obtain⟨u,hr2⟩:=ex (kB (ke (kB b (ks c)) 4) (Ai[df]?.getD 0));rw[hr2];obtain⟨br,hx2⟩:=ex (CY u);have L:br<16:=by rw[<-hx2];exact TK _
     refine b' ?_;refine pk (cd (ke u 4)) ?_;refine ag ?_;refine aI (J wi (br:Int)) (by(rw[<-hx2,<-adj];show _=_;kernel_rfl)) ?_;refine adT ?_;refine pt a 0 Eu ?_;refine pu ?_;refine en ?_;refine pad (j:Int) 1 ((j+1:Nat):Int) ?_;refine bP ?_;go_wp2_with fail;go_roundw;case rel=>exact⟨j+1,ad,aa,_,aa,hid (by rw[Lj,Y6,A,<-n,Li,Li,hx1,hr2,hx2]),a⟩
     case measure=>simp[cy]<;>omega
    .have E:¬(j:Int)<(gN:Int):=ad;go_upto_region 13 with fail;refine cm ?_;refine pad 0 1 ((1:Nat):Int) ?_;refine bP ?_;go_wp2_with fail;go_roundw;case rel=>exact⟨1,ad,aa,_,aa,hid (b8 ⟨aa,by rw[n,show j=bs.length by rw[d];omega,B];rfl⟩),a⟩
     case measure=>simp[cy]<;>omega
  .have F:¬(q:Int)<1:=ad;have M:=(m.out.resolve_left (λh=>ad)).2;go_upto_region 14 with fail;refine cm ?_;refine ag ?_;refine pk (cd (FB r)) ?_;refine bP ?_;go_wp2_with fail;go_ret;exact⟨aY,a.only⟩
def Y7(b c d)aJ c2 bs w(f:bs.length<=35184372088832)(hcell:w.cell? ⟨b,c,af⟩=ab (ae aJ bs.length c2))(hb:bX w aJ bs):
 aD aw 284 #[ae (ab ⟨b,c,af⟩) 1 d] w λe w'=>e=aB (cd (Hz bs))/\ar w w':=by
 go_enter func284,ntmps284;have a:=bc w;go_step;refine ah ?_;refine cK ?_;refine bH (anT 0 b c d aJ c2 bs _ f hcell hb) a (λw1 a=>?_);refine bP ?_;go_wp2_with fail;go_ret;exact⟨aa,a.only⟩
def yA(s:Int)(i:Nat):Int:=d'.wrap (s.fdiv (2^(8*i)))
def alD s:yA s 0=d'.wrap s:=by simp[yA]
def Lk(s:Int):List Int:=[yA s 0,yA s 1,yA s 2,yA s 3]
def A1(bs:List Int):List Int:=bs++Lk (Hz bs)
def aeY bs:(A1 bs).length=bs.length+4:=by simp[A1,Lk]
def au3 A c bs w(o:bs.length<=17592186044416)(hc:bs.length<=c)(hb:bX w A bs):
 aD aw 325 #[ae A bs.length c] w λe w'=>∃d g,e=aB (ae d (A1 bs).length g)/\e6 w.heap.size w' d g (A1 bs)/\ar w w':=by
 have f:=hid hb;obtain⟨s,b⟩:=ex (Hz bs);have i:=hid b;have HT:=hid (Y7 (bs:=bs));rw[b]at HT;clear b hb;go_enter func325,ntmps325;have a:=bc w;go_step;refine ah ?_;refine cK ?_;refine fC a #[ae A bs.length c] 22 (λl w1 a=>?_);refine bH (HT _ 0 1 A c _ ad ((a.aX 0).cell 0 aa) (f.out.aG a.only)) a (λp a=>?_);refine ag ?_;refine ah ?_;refine v5 ?_;refine aI _ (afg 22 5 1 _ _ _ aa dL ay A _ c _ _ aa aa aa (b4 _) hc) ?_;refine ag ?_;refine pk (bb (d'.wrap s)) ?_;refine ag ?_;refine pk (cd (ke s 8)) ?_;refine pk (bb (d'.wrap (ke s 8))) ?_;refine ag ?_;refine pk (cd (ke s 16)) ?_;refine pk (bb (d'.wrap (ke s 16))) ?_;refine ag ?_;refine pk (cd (ke s 24)) ?_;refine pk (bb (d'.wrap (ke s 24))) ?_;refine fC a #[bb (d'.wrap s),bb (d'.wrap (ke s 8)),bb (d'.wrap (ke s 16)),bb (d'.wrap (ke s 24))] 5 (λsn q a=>?_);refine as6 a (akQ 1 aa aa aa (bX.cells (f.out.aG a.only)) (aU.cellsOf (m:=4) (a.aX 0) aa) (by intro u h;simp at h;rcases h with rfl|rfl|rfl|rfl<;>rfl) bf ad bf dL ay) (λk n r a=>?_);refine bP ?_;go_wp2_with fail;go_ret;have j:bs.map bb++[bb (d'.wrap s),bb (d'.wrap (ke s 8)),bb (d'.wrap (ke s 16)),bb (d'.wrap (ke s 24))]=(A1 bs).map bb:=by rw[A1,i,Lk,alD,gp];rfl
 rw[j,<-aeY]at a;exact⟨_,_,by rw[aeY];rfl,Row.nZ (a.fresh 0).row,a.only⟩
def ta(bs:List Int):Option (List Int):=if 4<=bs.length/\∀i,i<4->bs[bs.length -4+i]?.getD 0=yA (Hz (bs.take (bs.length -4))) i then ab (bs.take (bs.length -4))else af
def asD A c bs w(U:bs.length<=17592186044416)(hc:bs.length<=c)(hb:bX w A bs):
 aD aw 213 #[ae A bs.length c] w λe w'=>(∃d t B,ta bs=ab d/\e=aB (bm #[ae t d.length B,ai az])/\e6 w.heap.size w' t B d/\ar w w')\/(ta bs=af/\e=aB (bm #[ae af 0 0,ai ao])/\ar w w'):=by
 have I:=hid hb;by_cases N:4<=bs.length
 .obtain⟨n,hn⟩:∃n,bs.length=n+4:=⟨bs.length -4,ad⟩;obtain⟨g,f,rfl,D⟩:=hb ad;have K:=hid D;have x:=hid hn;have T:n+4<=c:=ad;have Y:fF (ab ⟨g,f,af⟩) c n 1=ab ⟨g,f+n,af⟩:=by grind[fF,nL]
  have F:(bs.take n).length=n:=aF;have y:=hid (bX.Dl I (show n<=bs.length by omega));have l:=hid F;obtain⟨s,p⟩:=ex (Hz (bs.take n));have z:=hid p;have HT:aE (∀o W,W.cell? ⟨o,0,af⟩=ab (ae (ab ⟨g,f,af⟩) n c)->bX W (ab ⟨g,f,af⟩) (bs.take n)->aD aw 284 _ W λe w'=>e=aB (cd s)/\ar W w'):=hid (λo W h1 k=>by rw[<-p];exact Y7 o 0 1 _ c _ W ad aF k);rw[hn];clear D p hb F;go_enter Tryz.func213,Tryz.ntmps213;have a:=bc w;go_upto_region 0 with fail;refine cm ?_;refine v2 ?_;refine hE ?_;refine lH ((n+4:Nat):Int) 4 ((n:Nat):Int) ?_;refine ag ?_;refine ah ?_;refine v2 ?_;refine hE ?_;refine aI (ae (ab ⟨g,f,af⟩) n c) (qt 22 5 1 (bj 13) (bj 14) aa dL ay (ab ⟨g,f,af⟩) (n+4) c n aa aa ad) ?_;refine fC a #[ae (ab ⟨g,f,af⟩) n c] 22 (λQ w1 a=>?_);refine bH (HT.out _ _ ((a.aX 0).cell 0 aa) (y.out.aG a.only)) a (λZ a=>?_);refine bP ?_;have P:ae (ab ⟨g,(f+n),af⟩) 4 (c -n)=ae (fF (ab ⟨g,f,af⟩) c n 1) ((n+4) -n) (c -n):=aF;refine hE ?_;refine aI (ae (ab ⟨g,(f+n),af⟩) 4 (c -n)) (by(rw[P];exact Us 22 5 1 _ _ aa dL ay _ _ c n aa aa ad ad)) ?_;refine dZ ?_;have L:=a.only;go_wp2_with fail;go_loopw [22] (λr wr=>∃q:Nat,q<=4/\r=J R q/\aE (∀i,i<q->bs[n+i]?.getD 0=yA s i)/\ak w (λ_=>False) wr []) (λr wr=>4 -(cy r).toNat);case atStart=>exact⟨0,ad,aa,hid (λi hi=>absurd hi ad),a.drop 0⟩
  case round=>
   clear a L;obtain⟨q,X,rfl,u,a⟩:=hrel;by_cases hlt:q<4
   .have V:(q:Int)<4:=ad;have G:=K (n+q) ad;obtain⟨b,hb⟩:=ex (bs[n+q]?.getD 0);rw[hb,<-Nat.add_assoc]at G;have v:=hid hb;clear hb;obtain⟨d,E⟩:=ex (yA s q);have j:=hid E;have C:8*q<=32:=ad;clear E;go_upto_region 7 with fail;refine cm ?_;refine ag ?_;refine aI _ (cq 22 5 1 _ _ aa dL ay _ _ 4 _ _ ((f+n+q)) aa aa hlt ad) ?_;refine Nd G a.only ?_;refine dZ ?_;by_cases jx:b=d
    .subst jx;refine jz ?_;refine I4 8 (q:Int) ((8*q:Nat):Int) ?_;refine aI (cd _) (BZ _ _ _ 3 aa _ _ _ _ aa aa C) ?_;refine aI (bb b) (by(rw[<-j];show _=_;kernel_rfl)) ?_;refine en ?_;refine pad (q:Int) 1 ((q+1:Nat):Int) ?_;refine bP ?_;go_wp2_with fail;go_roundw;case rel=>exact⟨q+1,ad,aa,hid (λi hi=>by rcases Nat.lt_succ_iff_lt_or_eq.1 hi with h|rfl;exact u i h;rw[v];exact j.out.symm),a⟩
     case measure=>grind[cy]
    .have O:=jx;refine jz ?_;refine I4 8 (q:Int) ((8*q:Nat):Int) ?_;refine aI (cd _) (BZ _ _ _ 3 aa _ _ _ _ aa aa C) ?_;refine aI (bb d) (by(rw[<-j];show _=_;kernel_rfl)) ?_;refine ag ?_;refine ah ?_;refine dZ ?_;go_wp2_with fail;go_ret2;refine b8 ⟨?_,aa,a.only⟩;refine if_neg (λh=>O ?_);have k:=h.2 q hlt;rw[x,show n+4 -4=n by omega,z,v]at k;rw[k,j]
   .obtain rfl:q=4:=ad;go_upto_region 11 with fail;refine cm ?_;refine v2 ?_;refine aI _ (qt 22 5 1 _ _ aa dL ay _ _ c n aa aa ad) ?_;replace a:=a.new (bk _ 0 0 5 1 []) (cf.ady (au.refl _ _) (Row.nil _ _ _ _));refine lZ (m:=n) a 0 1 (by have q:=bX.cells (y.out.aG a.only);rw[l.out]at q;exact q) Yx (λH M bI a=>?_) (hby:=by omega);refine dZ ?_;go_wp2_with fail;go_ret2;refine bM ⟨_,H,M,?_,by rw[l];simp,Row.nZ (by rw[l];have q:=(a.fresh 0).row;simpa using q),a.only⟩;unfold ta;rw[x,show n+4 -4=n by omega,z];exact if_pos ⟨ad,u⟩
 .have S:((bs.length:Nat):Int) -4<0:=ad;go_enter Tryz.func213,Tryz.ntmps213;have a:=bc w;go_upto_region 0 with fail;refine cm ?_;refine v2 ?_;refine hE ?_;refine lH (bs.length:Int) 4 ((bs.length:Int) -4) ?_;refine ag ?_;refine ah ?_;refine v2 ?_;refine ah ?_;refine dZ ?_;go_wp2_with fail;go_ret2;exact b8 ⟨if_neg (λh=>N h.1),aa,a.only⟩
def avc{v s:Nat}(h:v<2^s)(b:1<=s):((v:Int).fdiv (2^(s -1))).fdiv (2^1)=0:=by
 have bB:(v:Int).fdiv (2^(s -1))=((v/2^(s -1):Nat):Int):=aF;rw[bB,show((2:Int)^1)=((2:Nat):Int) by rfl];have bY:((v/2^(s -1):Nat):Int).fdiv ((2:Nat):Int)=((v/2^(s -1)/2:Nat):Int):=aF;rw[bY,Nat.div_div_eq_div_mul];have a:2^(s -1)*2=2^s:=by rw[<-Nat.pow_succ];congr 1;omega
 rw[a,X1 h];rfl
def yO(f:Nat×Nat):Prop:=(f.2=1\/f.2=4\/f.2=8)/\f.1<2^(8*f.2)
def an8 f(h:yO f)w:
 aD aw 205 #[av #[J aH (f.1:Int),J R (f.2:Int)]] w λe w'=>e=aB (ai az)/\ar w w':=by
 obtain⟨v,s⟩:=f;obtain⟨rfl|rfl|rfl,hv⟩:=h
 all_goals
  dsimp only at hv⊢;have hz:=avc hv bf;clear hv;go_enter func205,ntmps205;have a:=bc w;go_step;refine ah ?_;refine bG a _ (λcT w1 a=>?_);refine cK ?_;refine pl a 0 1 ?_;refine v3 ?_;refine pl a 0 1 ?_;refine v4 ?_;refine pl a 0 0 ?_;refine ag ?_;refine pl a 0 1 ?_;refine v2 ?_;refine aI _ (BZ _ _ _ _ aa aH R _ _ aa aa bf) ?_;refine aI (J aH 0) (by(rw[<-hz];show _=_;kernel_rfl)) ?_;refine v3 ?_;refine an ?_;go_wp2_with fail;go_ret;exact⟨aa,a.only⟩
def rO(v s r:Nat):List Int:=(dG (s -r)).map (λj=>xu v (s -1 -j))
def ald{v s i}(h:i<s):rO v s i=rO v s (i+1)++[xu v i]:=by unfold rO;rw[show s -i=(s -(i+1))+1 by omega,pQ,gp,jM,kp,show s -1 -(s -(i+1))=i by omega]
theorem Yy(v s r):(rO v s r).length=s -r:=by simp[rO]
def iU(fs:List (Nat×Nat)):List Int:=fs.flatMap (λf=>rO f.1 f.2 0)
def akT fs f:iU (fs++[f])=iU fs++rO f.1 f.2 0:=by simp[iU]
def akR{fs}(h:∀f∈fs,yO f):(iU fs).length<=fs.length*8:=by
 induction fs with
 |nil=>simp[iU]
 |cons f l b=>
  have h1:=b (λg a=>h g (List.mem_cons_of_mem _ a));have c:=(h f (rK ..)).1;grind[iU,Yy]
def afW A c bs(p C iW)fs w(W:bs.length<=8796093022208/\fs.length<=1048576)(hb:bX w A bs)(Z:∀f∈fs,yO f)(I:∀i f,fs[i]?=ab f->w.cell? ⟨p,C+i*2,af⟩=ab (J aH (f.1:Int))/\w.cell? ⟨p,C+i*2+1,af⟩=ab (J R (f.2:Int))):
 aD aw 126 #[ae A bs.length c,ae (ab ⟨p,C,af⟩) fs.length iW] w λe w'=>∃D H,e=aB (bm #[ae D (bs++iU fs).length H,ai az])/\Row w.heap.size w' D (bs++iU fs).length H 5 1 ((bs++iU fs).map bb)/\ar w w':=by
 have O:=hid hb;have P:=hid I;have F:=hid Z;have cH:=hid W;clear hb I;go_enter func126,ntmps126;have a:=bc w;go_upto_region 0 with fail;refine cm ?_;refine Dr ?_;refine aP (wZ A c bs _ (O.out.aG a.only) ad) ?_;rintro e w1 ⟨axm,ayD,rfl,hrow,g⟩;replace a:=a.k9 g hrow;refine aQ ?_;refine ag ?_;refine ah ?_;refine v3 ?_;refine an ?_;go_wp2_with fail;go_loopw [6,14] (λev y wr=>∃(q L:Nat) (b:Option bQ) (d:Nat),q<=fs.length/\y=J R q/\ev=ae b L d/\aE (L=(bs++iU (fs.take q)).length)/\ak w (λ_=>False) wr [bk b L d 5 1 ((bs++iU (fs.take q)).map bb)]) (λev y wr=>fs.length -(cy y).toNat);case atStart=>exact⟨0,_,_,_,ad,aa,aa,hid (by simp[iU]),by grind[iU]⟩
 case round=>
  clear a;obtain⟨q,L,b,d,hq,rfl,rfl,o,a⟩:=hrel;have azh:L<=8796093022208+8388608:=by have U:=akR (fs:=fs.take q) (λf j=>F f (List.mem_of_mem_take j));rw[List.length_take]at U;rw[o,c'];omega
  by_cases hlt:q<fs.length
  .have X:(q:Int)<(fs.length:Int):=ad;obtain⟨⟨v,s⟩,j⟩:∃f,fs[q]?=ab f:=⟨_,cC hlt⟩;obtain⟨M,N⟩:=P q (v,s) j;have n:=F _ (cY j);have Q:=hid (an8 _ n);have vM:s<=8:=by have:=n.1;simp only at this;omega
   have hs1:1<=s:=by have:=n.1;simp only at this;omega
   have T:=hid j;have G:=hid (And.intro M N);clear j n M N;go_upto_region 4 with fail;refine cm ?_;refine aI _ (cq _ _ 2 _ _ aa underlying229 ay _ _ _ _ q _ aa aa hlt aa) ?_;refine aI _ (ac3 _ aa aa (a.only.cell G.1 (λh=>h)) (a.only.cell G.2 (λh=>h)) underlying227 aa ay) ?_;refine bA a #[J _ 0,J _ 0] (λE aW a=>?_);refine a' a 0 (av _) (λbI a=>?_);refine ah ?_;refine bh a 0 #[J aH (v:Int),J R (s:Int)] ?_;refine bH (Q _) a (λcc a=>?_);refine cK ?_;refine pl a 0 1 ?_;refine lH _ 1 ((s:Int) -1) ?_;refine bP ?_;replace a:=a.pk [1,0];replace a:ak w (λ_=>False) cc [bk b (L+0) d 5 1 (((bs++iU (fs.take q))++rO v s s).map bb),aj E #[J aH (v:Int),J R (s:Int)] 227]:=by simpa [rO]using a
   go_wp2_with fail;go_loopw [6,9] (λev B wr=>∃(r z:Nat) (k:Int) (Y:Option bQ) (l:Nat),(r<=s/\z+r=s/\k+1=(r:Int))/\B=J R k/\ev=ae Y (L+z) l/\ak w (λ_=>False) wr [bk Y (L+z) l 5 1 (((bs++iU (fs.take q))++rO v s r).map bb),aj E #[J aH (v:Int),J R (s:Int)] 227]) (λev B wr=>(cy B+1).toNat);case atStart=>exact⟨s,0,_,b,d,ad,aa,aa,a⟩
   case round=>
    clear a;obtain⟨r,z,k,Y,l,⟨ap5,acA,apf⟩,rfl,rfl,a⟩:=hrel;obtain rfl|⟨i,rfl⟩:r=0\/∃i,r=i+1:=by cases r;exact bM aa;exact b8 ⟨_,aa⟩
    .obtain rfl:k=-1:=ad;obtain rfl:z=s:=ad;go_upto_region 11 with fail;refine cm ?_;refine pad _ 1 ((q+1:Nat):Int) ?_;refine bP ?_;go_wp2_with fail;have ux:fs.take (q+1)=fs.take q++[(v,z)]:=by rw[gg,T];rfl
     have hap:bs++iU (fs.take (q+1))=bs++iU (fs.take q)++rO v z 0:=by rw[ux,akT,j0]
     go_roundw;case rel=>exact⟨q+1,_,Y,l,ad,aa,aa,hid (by rw[hap,c',Yy,<-o];omega),by rw[hap];exact a.drop 1⟩
     case measure=>simp[cy]<;>omega
    .obtain rfl:k=(i:Int):=ad;have V:8*i<=64:=ad;go_upto_region 10 with fail;refine cm ?_;refine v2 ?_;refine pl a 1 0 ?_;refine ag ?_;refine I4 8 _ ((8*i:Nat):Int) ?_;refine aI _ (BZ 42 _ _ 3 aa _ _ _ _ aa aa V) ?_;refine pk (bb (xu v i)) ?_;refine fC a #[bb (xu v i)] 5 (λgS cJ a=>?_);refine lZ (m:=1) a 1 1 (aU.cellsOf (m:=1) (a.aX 0) aa) (by intro u hu;rw[wO.1 hu];rfl) (λU0 YK c5 a=>?_);refine cK ?_;refine lH (i:Int) 1 ((i:Int) -1) ?_;refine bP ?_;go_wp2_with fail;go_roundw;case rel=>exact⟨i,z+1,_,_,_,ad,aa,aa,by rw[ald ad,<-j0,gp];exact a.pick [1,2]⟩
     case measure=>simp[cy]<;>omega
  .have X:¬(q:Int)<(fs.length:Int):=ad;have K:fs.take q=fs:=tQ ad;have x:=o.out;rw[K]at x;have S:=hid x;rw[K]at a;clear x;go_upto_region 12 with fail;refine cm ?_;refine v3 ?_;refine an ?_;go_wp2_with fail;go_ret2;have t:=S.out;rw[c']at t;exact⟨b,d,by rw[<-t];rfl,by rw[<-t,<-gp];exact(a.fresh 0).row,a.only⟩
structure Rd where
 bs:List Int
 p:Nat
 bq:Int
 dg:Int
def lI(A:Option bQ)(c:Nat)(r:Rd):Array Value:=#[ae A r.bs.length c,J R (r.p:Int),J R r.bq,J R r.dg]
def xC(x c:Int):Int:=aH.wrap ((nw 64 (aH.wrap (x*2^8))|||BitVec.ofInt 64 (aH.wrap c)).toNat:Int)
def mE(r:Rd)(k a:Int):Rd:=if r.bq=0/\¬k=0 then{r with bq:=k,dg:=a}else r
def ar3 A c bs w(l:bs.length<=140737488355328)(hb:bX w A bs):
 aD aw 134 #[ae A bs.length c] w λe w'=>∃B b d,e=aB (ax (ab ⟨B,0,af⟩))/\w.heap.size<=B/\aU w' B (lI b d ⟨bs,0,0,0⟩) 333/\e6 w.heap.size w' b d bs/\¬eb b B/\ar w w':=by
 go_enter func134,ntmps134;have a:=bc w;go_step;refine ah ?_;refine cK ?_;refine aP (wZ A c bs _ (hb.aG a.only) l) ?_;rintro e w1 ⟨f,k,rfl,hrow,g⟩;replace a:=a.k9 g hrow;refine aQ ?_;refine v2 ?_;refine bG a (av _) (λm n a=>?_);refine bP ?_;go_wp2_with fail;go_ret;exact⟨_,f,k,aa,(a.fresh 0).2.2 _ aa|>.1,a.aX 0,Row.nZ (a.fresh 1).row,λh=>a.ne (i:=1) (j:=0) aa aa bf _ h aa,a.only⟩
def asn w:
 aD aw 219 #[] w λe w'=>∃B,e=aB (dC (ed 286) #[] #[ax (ab ⟨B,0,af⟩)])/\w.heap.size<=B/\aU w' B #[J aH 0] 42/\ar w w':=by
 go_enter func219,ntmps219;have a:=bc w;go_step;refine ah ?_;refine en ?_;refine bA a #[J aH 0] (λb w1 a=>?_);refine a' a 0 (J _ 0) (λc a=>?_);refine ah ?_;refine dZ ?_;go_wp2_with fail;go_ret;exact⟨_,aa,(a.fresh 0).2.2 _ aa|>.1,a.aX 0,a.only⟩
def asm B(x c)w(hx:aU w B #[J aH x] 42):
 aD aw 286 #[J d' c,ax (ab ⟨B,0,af⟩)] w λe w'=>e=aB (J aH (xC x c))/\au (λb=>b=B) w w'/\aU w' B #[J aH (xC x c)] 42:=by
 go_enter func286,ntmps286;have a:=ak.start (t:=aj B _ 42) ⟨hx,λb e=>(show b=B from e)▸aU.lt hx⟩;go_step;refine ah ?_;refine en ?_;refine pl a 0 0 ?_;refine pk (J aH (aH.wrap (x*2^8))) ?_;refine ag ?_;refine pk (J aH (aH.wrap c)) ?_;refine pk (J aH (xC x c)) ?_;refine a' a 0 (J _ _) (λw1 a=>?_);refine ah ?_;refine pl a 0 0 ?_;refine bP ?_;go_wp2_with fail;go_ret;exact⟨aa,a.only,a.aX 0⟩
def aue(B t:Nat)A c r(g a)w(f:aU w B (lI A c r) t):
 aD aw 283 #[ax (ab ⟨B,0,af⟩),J R g,J R a] w λe w'=>e=aB (bm #[])/\au (λb=>b=B) w w'/\aU w' B (lI A c (mE r g a)) t:=by
 obtain⟨bs,p,bq,dg⟩:=r;have d:=ak.start (t:=aj B #[ae A bs.length c,J _ (p:Int),J _ bq,J _ dg] t) ⟨f,λb e=>(show b=B from e)▸aU.lt f⟩;clear f;by_cases i:bq=0
 .subst i;by_cases k:g=0
  .subst k;go_enter VH,V5;go_step;refine ah ?_;refine v4 ?_;refine pl d 0 2 ?_;refine pk (ai az) ?_;refine v2 ?_;refine pk (ai ao) ?_;refine bP ?_;go_wp2_with fail;first|go_end0|refine bodyPost_ret (results_none rfl _ _ _) rfl ?_
   exact⟨aa,d.only,by rw[mE,if_neg a8];exact d.aX 0⟩
  .have l:=k;go_enter VH,V5;go_step;refine ah ?_;refine v4 ?_;refine pl d 0 2 ?_;refine pk (ai az) ?_;refine v2 ?_;refine aI (ai az) (by(go_simp;try simp[l])) ?_;refine ag ?_;refine ah ?_;refine v6 ?_;refine a' d 0 (av _) (λw1 d=>?_);refine an ?_;go_wp2_with fail;first|go_end0|refine bodyPost_ret (results_none rfl _ _ _) rfl ?_
   exact⟨aa,d.only,by rw[mE,if_pos ⟨aa,l⟩];exact d.aX 0⟩
 .have j:=i;go_enter VH,V5;go_step;refine ah ?_;refine v4 ?_;refine pl d 0 2 ?_;refine aI (ai ao) (by(go_simp;try simp[j])) ?_;refine ag ?_;iterate 2 refine ps ?_
  refine bP ?_;go_wp2_with fail;first|go_end0|refine bodyPost_ret (results_none rfl _ _ _) rfl ?_
  exact⟨aa,d.only,by rw[mE,if_neg (λh=>j h.1)];exact d.aX 0⟩
def aeO(B t:Nat)A c r n w(b:Has w (aj B (lI A c r) t))(d:r.bq=0)(hn:r.p+n<=r.bs.length)(hc:r.bs.length<=c)(cz:r.bs.length<=140737488355328):
 aD aw 218 #[ax (ab ⟨B,0,af⟩),J R (n:Int)] w λe w'=>e=aB (bm #[ae (fF A c r.p 1) n (c -r.p),ai az])/\Turned w w' (aj B (lI A c r) t) (aj B (lI A c {r with p:=r.p+n}) t):=by
 obtain⟨bs,p,bq,dg⟩:=r;obtain rfl:=d;replace b:Has w (aj B #[ae A bs.length c,J _ (p:Int),J _ 0,J _ dg] t):=b;replace hn:p+n<=bs.length:=hn;replace hc:bs.length<=c:=hc;replace cz:bs.length<=140737488355328:=cz;have g:p+n<=140737488355328:=ad;go_enter Vy,V1;have a:=ak.start b;go_step;refine ah ?_;refine v2 ?_;refine n3 ?_;refine pl a 0 2 ?_;refine pk (ai ao) ?_;refine cK ?_;refine bu (ai ao) ?_;refine iB ?_;refine bN a [] (λ_ _=>a1) (λ_ _=>emp) (λ_=>[]) (λ|4=>[0]|9=>[0]|_=>[]) (λ_=>[]) [0] (λf=>?_);refine hD ?_;refine dl 0 0 ?_;refine hD ?_;refine dl 0 1 ?_;refine aN _ (λ_ _ _=>qQ 3 _ _ 3 aa _ _ ((bs.length:Int) -(p:Int)) aa aa ad ad ad) ?_;refine aN (ai ao) (λ_ _ _=>by(go_simp;try omega)) ?_;refine aK ?_;refine bU λw1 a=>?_;refine jz ?_;refine pl a 0 1 ?_;refine ag ?_;refine pad _ _ ((p+n:Nat):Int) ?_;refine v2 ?_;refine a' a 0 (J _ _) (λh a=>?_);refine cx ?_;refine bN a [] (λ_ _=>a1) (λ_ _=>emp) (λ_=>[]) (λ|3=>[0]|7=>[0]|13=>[0]|_=>[]) (λ_=>[]) [0] (λf=>?_);refine da ?_;refine dl 0 0 ?_;refine da ?_;refine dl 0 1 ?_;refine aK ?_;refine aN _ (λ_ _ _=>qQ 3 _ _ 3 aa _ _ ((p:Nat):Int) aa aa ad ad ad) ?_;refine da ?_;refine dl 0 1 ?_;refine aN _ (λ_ _ _=>Jh 22 5 1 _ _ _ aa dL ay A _ c p _ n aa aa aa ad ad) ?_;refine bF ?_;refine bU λi a=>?_;go_wp2_with fail;go_ret2;exact⟨aa,a.fM 0⟩
def pV(r:Rd)(n:Int):Rd:=if n<0 then mE r 2 r.p else mE r 8 r.bs.length
def Nj(B t:Nat)A c r(b a)w(g:Has w (aj B (lI A c r) t)):
 aD aw 283 #[ax (ab ⟨B,0,af⟩),J R b,J R a] w λe w'=>e=aB (bm #[])/\Turned w w' (aj B (lI A c r) t) (aj B (lI A c (mE r b a)) t):=
 (aue B t A c r b a w g.1).mono (λ_ _ ⟨h1,d,f⟩=>⟨h1,vt d f⟩)
def aeN(B t:Nat)A c r n w(b:Has w (aj B (lI A c r) t))(i:r.p<=r.bs.length)(cz:r.bs.length<=140737488355328)(j:-1<=n/\n<=4611686018427387904)(f:r.bq≠0\/n<0\/(r.bs.length:Int)<r.p+n):
 aD aw 218 #[ax (ab ⟨B,0,af⟩),J R n] w λe w'=>e=aB (bm #[ae af 0 0,ai ao])/\Turned w w' (aj B (lI A c r) t) (aj B (lI A c (pV r n)) t):=by
 obtain⟨bs,p,bq,dg⟩:=r;replace b:Has w (aj B #[ae A bs.length c,J _ (p:Int),J _ bq,J _ dg] t):=b;replace i:p<=bs.length:=i;replace cz:bs.length<=140737488355328:=cz;by_cases g:bq=0
 .subst g;replace f:n<0\/(bs.length:Int)<p+n:=f.resolve_left (λh=>h aa);go_enter Vy,V1;have a:=ak.start b;go_step;refine ah ?_;refine v2 ?_;refine n3 ?_;refine pl a 0 2 ?_;refine pk (ai ao) ?_;refine bP ?_;by_cases hn:n<0
  .have hb:pV (⟨bs,p,0,dg⟩:Rd) n=mE (⟨bs,p,0,dg⟩:Rd) 2 p:=by grind[pV]
   refine b' ?_;refine bu (ai az) ?_;refine xU ?_;refine pl a 0 1 ?_;refine aP (Nj B t A c (⟨bs,p,0,dg⟩:Rd) 2 p _ (a.has 0)) ?_;rintro e w1 ⟨rfl,d⟩;replace a:=a.ek 0 d;refine aQ ?_;refine ah ?_;refine dZ ?_;go_wp2_with fail;go_ret2;exact⟨aa,aF⟩
  .have hb:pV (⟨bs,p,0,dg⟩:Rd) n=mE (⟨bs,p,0,dg⟩:Rd) 8 bs.length:=by grind[pV]
   refine b' ?_;refine bu (ai ao) ?_;refine iB ?_;refine bN a [] (λ_ _=>a1) (λ_ _=>emp) (λ_=>[]) (λ|4=>[0]|9=>[0]|_=>[]) (λ_=>[]) [0] (λk=>?_);refine hD ?_;refine dl 0 0 ?_;refine hD ?_;refine dl 0 1 ?_;refine aN _ (λ_ _ _=>qQ 3 _ _ 3 aa _ _ ((bs.length:Int) -(p:Int)) aa aa ad ad ad) ?_;refine aN (ai az) (λ_ _ _=>by(go_simp;try omega)) ?_;refine aK ?_;refine bU λl a=>?_;refine n3 ?_;refine pl a 0 0 ?_;refine ag ?_;refine aP (Nj B t A c (⟨bs,p,0,dg⟩:Rd) 8 _ _ (a.has 0)) ?_;rintro e m ⟨rfl,d⟩;replace a:=a.ek 0 d;refine aQ ?_;refine ah ?_;refine dZ ?_;go_wp2_with fail;go_ret2;exact⟨aa,by first|exact a.fM 0|(rw[hb];exact a.fM 0)⟩
 .have hb:pV (⟨bs,p,bq,dg⟩:Rd) n=(⟨bs,p,bq,dg⟩:Rd):=by grind[pV,mE]
  go_enter Vy,V1;have a:=ak.start b;go_step;refine ah ?_;refine v2 ?_;refine n3 ?_;refine pl a 0 2 ?_;refine aI (ai az) (by(go_simp;try simp[g])) ?_;refine ag ?_;refine ah ?_;refine dZ ?_;go_wp2_with fail;go_ret2;exact⟨aa,by first|exact a.fM 0|(rw[hb];exact a.fM 0)⟩
def ej(B:Nat)(A:Option bQ)(c:Nat)(r:Rd):bp:=both (aj B (lI A c r) 333) (cg A c r.bs)
def uE(l:List Int):Int:=l.foldl xC 0
theorem asl l x:uE (l++[x])=xC (uE l) x:=by simp[uE]
def wrap_u64 z:0<=aH.wrap z/\aH.wrap z<18446744073709551616:=by grind[DL,DK,JT]
theorem asj(x c):0<=xC x c/\xC x c<18446744073709551616:=wrap_u64 _
theorem TN l:0<=uE l/\uE l<18446744073709551616:=by
 have h:∀(l:List Int) (a:Int),0<=a/\a<18446744073709551616->0<=l.foldl xC a/\l.foldl xC a<18446744073709551616:=by
  intro l;induction l with
  |nil=>simp
  |cons x l b=>grind[asj]
 exact h l 0 ad
def tg(r:Rd)(n:Nat):List Int:=(r.bs.drop r.p).take n
def auz B A c r s w(u:Has w (ej B A c r))(D:r.bq=0)(hn:r.p+s<=r.bs.length)(hs1:1<=s/\s<=8)(cz:r.bs.length<=140737488355328):
 aD aw 135 #[ax (ab ⟨B,0,af⟩),J R (s:Int)] w λe w'=>e=aB (J aH (uE (tg r s)))/\Turned w w' (ej B A c r) (ej B A c {r with p:=r.p+s}):=by
 obtain⟨bs,p,bq,dg⟩:=r;obtain rfl:bq=0:=D;replace hn:p+s<=bs.length:=hn;replace cz:bs.length<=140737488355328:=cz;have hb0:=u.1.2.1;have hc:bs.length<=c:=hb0.2.2;have d:=bX.win hb0.1 hc (i:=p) (q:=p+s) hn;rw[tS]at d;obtain⟨b0,v,t,_⟩:=d aF;have n:=hid t;clear t d hb0
 have z:aE (∀l W,ak w (ej B A c ⟨bs,p,0,dg⟩).cR W l->∀j,l[j]?=ab (cg A c bs)->∀q,q<s->W.cell? ⟨b0,v+q,af⟩=ab (J d' ((tg ⟨bs,p,0,dg⟩ s)[q]?.getD 0))):=hid (λl W h j E q G=>by have h1:=bX.win (ak.at h j E).1 hc (i:=p) (q:=p+s) hn;rw[tS]at h1;obtain⟨eF,fB,e,C⟩:=h1 aF;rw[n]at e;cases e;exact C q aF);go_enter Tryz.func135,Tryz.ntmps135;have a:ak w (ej B A c ⟨bs,p,0,dg⟩).cR w [aj B #[ae A bs.length c,J R (p:Int),J R 0,J R dg] 333,cg A c bs]:=(ak.start u).fi;go_upto_region 0 with fail;refine cm ?_;refine cK ?_;refine pk (ai ao) ?_;refine b' ?_;refine bu (ai ao) ?_;refine v2 ?_;refine bu (ai ao) ?_;refine xU ?_;refine aP ((by have h:=aeO B 333 A c (⟨bs,p,0,dg⟩:Rd) s _ (a.has 0) aa hn hc cz;rw[n.out]at h;exact h)) ?_;rintro e w1 ⟨rfl,b⟩;replace b:Turned _ _ _ (aj B #[ae A bs.length c,J R ((p+s:Nat):Int),J R 0,J R dg] 333):=b;replace a:=a.ek 0 b;refine Om ?_;refine pk (ai ao) ?_;refine axk ?_;refine aP (asn _) ?_;rintro e I ⟨m,rfl,lo,hx,g⟩;replace a:=a.new _ (yz g hx lo);refine aQ ?_;refine ag ?_;refine ah ?_;refine v3 ?_;refine an ?_;go_wp2_with fail;go_loopw [7,32] (λy k wr=>∃q:Nat,q<=s/\y=J aH (uE ((tg ⟨bs,p,0,dg⟩ s).take q))/\k=J R q/\ak w (ej B A c ⟨bs,p,0,dg⟩).cR wr [aj m #[J aH (uE ((tg ⟨bs,p,0,dg⟩ s).take q))] 42,aj B #[ae A bs.length c,J R ((p+s:Nat):Int),J R 0,J R dg] 333,cg A c bs]) (λy k wr=>s -(cy k).toNat);case atStart=>exact⟨0,ad,aa,aa,a.pick [0,1,2]⟩
 case round=>
  clear a;obtain⟨q,G,rfl,rfl,a⟩:=hrel;by_cases hlt:q<s
  .have F:(q:Int)<(s:Int):=ad;obtain⟨x,hx⟩:∃x,(tg ⟨bs,p,0,dg⟩ s)[q]?=ab x:=⟨_,cC (by grind[tg])⟩;have hcell:=z _ _ a 2 aa q hlt;rw[hx,vo]at hcell;have o:aE (uE ((tg ⟨bs,p,0,dg⟩ s).take (q+1))=xC (uE ((tg ⟨bs,p,0,dg⟩ s).take q)) x):=hid (by grind[gg,asl]);clear hx;go_upto_region 12 with fail;refine cm ?_;refine aI _ (cq 22 5 1 _ _ aa dL ay _ _ _ _ _ ((v+q)) aa aa hlt ad) ?_;refine v2 ?_;refine hE ?_;refine aP (asm m (uE ((tg ⟨bs,p,0,dg⟩ s).take q)) x _ (a.aX 0)) ?_;rintro e K ⟨rfl,H,h1⟩;replace a:=a.ek 0 (vt H h1);refine aQ ?_;refine en ?_;refine pad (q:Int) 1 ((q+1:Nat):Int) ?_;refine bP ?_;go_wp2_with fail;go_roundw;case rel=>exact⟨q+1,ad,by rw[o],aa,by rw[o];exact a⟩
   case measure=>grind[cy]
  .have F:¬(q:Int)<(s:Int):=ad;obtain rfl:q=s:=ad;have f:(tg ⟨bs,p,0,dg⟩ q).take q=(tg ⟨bs,p,0,dg⟩ q):=tQ (by grind[tg]);rw[f]at a;simp only[f];clear f;go_upto_region 15 with fail;refine cm ?_;refine dZ ?_;go_wp2_with fail;go_ret;exact⟨aa,(a.pick (l':=[aj B _ _,cg A c bs]) [1,2]).star.fM 0⟩
def qO(r:Rd):Prop:=r.p<=r.bs.length/\r.bs.length<=140737488355328
def k'(r:Rd)(s:Nat):Int×Rd:=if r.bq=0/\r.p+s<=r.bs.length then(uE (tg r s),{r with p:=r.p+s})else(0,pV r s)
theorem HE r(k a):(mE r k a).bs=r.bs/\(mE r k a).p=r.p:=by grind[mE]
theorem K8 r n:(pV r n).bs=r.bs/\(pV r n).p=r.p:=by grind[pV,HE]
theorem NC{r}(h:qO r)s:qO (k' r s).2:=by grind[k',qO,K8]
def Jm r s:0<=(k' r s).1/\(k' r s).1<18446744073709551616:=by
 unfold k';split;·exact TN _
 .simp
def qh(r:Rd):Int×Rd:=if(k' r 8).1>4611686018427387903 then(0,mE (k' r 8).2 2 r.p)else k' r 8
def ac5{r}(h:qO r):qO (qh r).2:=by grind[qh,qO,HE,NC]
def ac6 r:0<=(qh r).1/\(qh r).1<=4611686018427387903:=by
 unfold qh;have:=Jm r 8;split;·simp
 .omega
def Je B A c r(s:Nat)w(g:Has w (ej B A c r))(b:qO r)(hs1:1<=s/\s<=8):
 aD aw 135 #[ax (ab ⟨B,0,af⟩),J R (s:Int)] w λe w'=>e=aB (J aH (k' r s).1)/\Turned w w' (ej B A c r) (ej B A c (k' r s).2):=by
 by_cases d:r.bq=0/\r.p+s<=r.bs.length;·refine(auz B A c r s w g d.1 d.2 hs1 b.2).mono (λe w' h=>?_);grind[k']
 have bY:k' r s=(0,pV r s):=by grind[k']
 rw[bY];clear bY;have f:r.bq≠0\/(s:Int)<0\/(r.bs.length:Int)<r.p+(s:Int):=ad;clear d;have j:=hid (λW (h:Has W (aj B (lI A c r) 333))=>aeN B 333 A c r s W h b.1 b.2 ad f);have i:=hid (K8 r s).1;clear f b;go_enter Tryz.func135,Tryz.ntmps135;have a:ak w (ej B A c r).cR w [aj B (lI A c r) 333,cg A c r.bs]:=(ak.start g).fi;go_step;refine ah ?_;refine cK ?_;refine pk (ai ao) ?_;refine b' ?_;refine bu (ai ao) ?_;refine v2 ?_;refine bu (ai ao) ?_;refine xU ?_;refine aP (j.out _ (a.has 0)) ?_;rintro e w1 ⟨rfl,k⟩;replace a:=a.ek 0 k;refine Om ?_;refine pk (ai az) ?_;refine ah ?_;refine ag ?_;refine an ?_;go_wp2_with fail;go_ret;exact⟨aa,(by have h:=(a.pick (l':=[aj B (lI A c (pV r s)) 333,cg A c r.bs]) [0,1]).star;unfold ej;rw[i];exact ak.fM (s:=_) h 0)⟩
def ak.rd{aq w:aM}{FX:Nat->Prop}{l:List bp}{B c:Nat}{A:Option bQ}{r:Rd}(h:ak aq FX w l)(i:Nat)(hi:l[i]?=ab (ej B A c r):=by rfl):aU w B (lI A c r) 333:=(h.at i hi).1
def auf B A c r(b a)w(i:Has w (ej B A c r)):
 aD aw 283 #[ax (ab ⟨B,0,af⟩),J R b,J R a] w λe w'=>e=aB (bm #[])/\Turned w w' (ej B A c r) (ej B A c (mE r b a)):=by
 have d:ak w (ej B A c r).cR w [aj B (lI A c r) 333,cg A c r.bs]:=(ak.start i).fi;refine(Nj B 333 A c r b a w (d.has 0)).mono (λe w' ⟨h1,f⟩=>⟨h1,?_⟩);have h:=(d.zm f).star;have e:=(HE r b a).1;have g:ak w (ej B A c r).cR w' [ej B A c (mE r b a)]:=by grind[ej]
 exact g.fM 0
def aeG B A c r w(u:Has w (ej B A c r))(m:qO r):
 aD aw 211 #[ax (ab ⟨B,0,af⟩)] w λe w'=>e=aB (J R (qh r).1)/\Turned w w' (ej B A c r) (ej B A c (qh r).2):=by
 have j:=hid (λW (h:Has W (ej B A c r))=>Je B A c r 8 W h m ad);have d:=hid (Jm r 8);have C:r.p<=140737488355328:=by grind[qO]
 obtain⟨v,b,i⟩:∃v b,k' r 8=(v,b):=⟨_,_,aa⟩;rw[i]at d;obtain⟨x,f,hx,bB,bY⟩:∃x f,qh r=(x,f)/\(v>4611686018427387903->x=0/\f=mE b 2 r.p)/\(¬v>4611686018427387903->v=x/\b=f):=by grind[qh]
 rw[hx];have o:=hid bB;have q:=hid bY;have s:aE (∀W,Has W (ej B A c r)->aD aw 135 #[ax (ab ⟨B,0,af⟩),J R 8] W λe w'=>e=aB (J aH v)/\Turned W w' (ej B A c r) (ej B A c b)):=hid (λW h=>by have l:=j W h;rw[i]at l;exact l);clear j bB bY i hx m;have hv0:=d.1;have y:=d.2;clear d;simp only at hv0 y;go_enter func211,ntmps211;have a:ak w (ej B A c r).cR w [ej B A c r]:=ak.start u;go_step;refine ah ?_;refine cK ?_;refine pk (ai ao) ?_;refine n3 ?_;refine aI (J R (r.p:Int)) (fw (B:=B) (k:=1) (t:=333) (cs:=lI A c r) aa aa (ak.rd a 0) aa ay) ?_;refine cK ?_;refine aP (s.out _ (a.has 0)) ?_;rintro e w1 ⟨rfl,g⟩;replace a:=a.ek 0 g;refine Ds ?_;by_cases n:v>4611686018427387903;·obtain⟨rfl,rfl⟩:=o n;refine b' ?_;refine bu (ai az) ?_;refine n3 ?_;refine aP (auf B A c b 2 r.p _ (a.has 0)) ?_;rintro e D ⟨rfl,g⟩;replace a:=a.ek 0 g;refine aQ ?_;refine ah ?_;refine ag ?_;refine an ?_;go_wp2_with fail;go_ret;exact⟨aa,a.fM 0⟩
 .obtain⟨rfl,rfl⟩:=q n;refine b' ?_;refine bu (ai ao) ?_;refine b' ?_;refine aI (J R v) (by(have z:R.wrap v=v:=IntWalk.i64_in _ ⟨ad,ad⟩;go_simp;try rw[z])) ?_;refine bP ?_;go_wp2_with fail;go_ret;exact⟨aa,a.fM 0⟩
def aug B A c r w(b:Has w (ej B A c r)):
 aD aw 212 #[ax (ab ⟨B,0,af⟩)] w λe w'=>e=aB (av #[J R r.bq,J R r.dg])/\ar w w':=by
 go_enter func212,ntmps212;have a:=bc w;have hr:aU w B (lI A c r) 333:=b.1.1;go_step;refine ah ?_;refine bA a #[J R 0,J R 0] (λd w1 a=>?_);refine b' ?_;refine pk (ai ao) ?_;refine n3 ?_;refine aI (av #[J R r.bq,J R r.dg]) (mi (cs':=#[J R r.bq,J R r.dg]) aa aa (aU.aG hr a.only) ay (of_decide_eq_true ay) ay ay) ?_;refine a' a 0 (av #[J R r.bq,J R r.dg]) (λf a=>?_);refine an ?_;go_wp2_with fail;refine dp (v:=_) (jd aa _ _ _ _ _ _ _ aa (a.aX 0) Tryz.underlying49 aa ay) aa (⟨aa,a.only⟩)
structure dn where
 size:Nat
 cnt:Nat
 bytes:List Int
 writes:Int
 keep:Int
 ep:Int
 eP:Int
 ix:Int
 hi:Int
 mo:Int
 cache:List (Nat×List Int)
 down:Bool
def nz.plain(m:nz):List (Nat×List Int):=m.L.map (λx=>(x.sec,x.bs))
def p1(m:nz)(d:dn):Array Value:=#[J R (d.size:Int),ae (ab ⟨m.cG,0,af⟩) d.bytes.length d.bytes.length,J R d.writes,J aH d.keep,J R d.ep,J R d.eP,J R d.ix,J R d.hi,J R d.mo,ae m.A m.L.length m.c,dj (ab m.e3),ai d.down]
def pn(l:List Nat)(i:Nat):Option Nat:=(l.foldl (λ(p:Nat×Option Nat) j=>(p.1+1,if j=i then ab p.1 else p.2)) (0,af)).2
def acU i:∀(l:List Nat) p,(l.foldl (λ(p) j=>(p.1+1,if j=i then ab p.1 else p.2)) p).1=p.1+l.length
 |[],p=>by simp
 |j::l,p=>by rw[tO,acU i l];simp;omega
theorem Mz l(j i):pn (l++[j]) i=if j=i then ab l.length else pn l i:=by unfold pn;rw[List.foldl_append,tO,List.foldl_nil];have h:=acU i l (0,af);rw[h];simp
def Tq{l i k}(h:pn l i=ab k):l[k]?=ab i:=by
 suffices a:∀n (l:List Nat),l.length=n->pn l i=ab k->l[k]?=ab i from a _ l aa h;intro n;induction n with
 |zero=>grind[pn]
 |succ n c=>
  intro l b h;have hne:l≠[]:=λe=>by grind
  rw[<-List.dropLast_concat_getLast hne]at h⊢;grind[Mz]
def yM(x:Int):Value:=J R x
def jQ(b:Nat)(l:List Nat):bp:=⟨λi=>i=b,λw=>∃a:List (Int×aO),dM w b yM c4 a/\a.length<=l.length/\∀i:Nat,dX a (i:Int)=(pn l i).map (λk=>J R (k:Int)),λw w' h f d=>by obtain⟨a,⟨es,e,hb,r⟩,c⟩:=d;exact⟨a,⟨es,_,AT h aa hb,r⟩,c⟩⟩
def l7(L:List Q0):List Value:=L.flatMap (λx=>[J R (x.sec:Int),ae x.A x.bs.length x.c])
theorem alE L x:l7 (L++[x])=l7 L++[J R (x.sec:Int),ae x.A x.bs.length x.c]:=by simp[l7]
def Rr{L k x}(h:L[k]?=ab x):(l7 L)[k*2]?=ab (J R (x.sec:Int))/\(l7 L)[k*2+1]?=ab (ae x.A x.bs.length x.c):=by
 induction L generalizing k with
 |nil=>grind
 |cons y l a=>
  cases k with
  |zero=>
   obtain rfl:y=x:=aF;exact⟨aa,aa⟩
  |succ k=>grind[l7]
def l0(L:List Q0):bp:=⟨λb=>∃x∈L,eb x.A b,λw=>∀x∈L,e6 0 w x.A x.c x.bs,λw w' h a d x hx=>(cg x.A x.c x.bs).nO w w' (λb hb=>h b ⟨x,hx,hb⟩) (λb hb=>a b ⟨x,hx,hb⟩) (d x hx)⟩
abbrev oq:Nat:=258
def aL(B:Nat)(m:nz)(d:dn):bp:=nW (d.cache=m.plain) (both (aj B (p1 m d) 120) (both (aj m.cG (aZ bb d.bytes []) 5) (both (jQ m.e3 (d.cache.map (·.1))) (both (bk m.A m.L.length m.c oq 2 (l7 m.L)) (l0 m.L)))))
def ak.Jn{aq w FX l q t}(h:ak aq FX w (nW q t::l)):q/\ak aq FX w (t::l):=
 ⟨(h.holds _ (rK ..)).1,h.as 0 aa t (λh=>h.2) (λ_ h=>h)⟩
def ak.nW{aq w FX l q t}(h:ak aq FX w (t::l))(a:q):ak aq FX w (Go.Proofs.YtcmhplknoglbkaaGreat.nW q t::l):=
 h.as 0 aa (Go.Proofs.YtcmhplknoglbkaaGreat.nW q t) (λh=>⟨a,h⟩) (λ_ h=>h)
def ak.Uh{aq w FX l t}(h:ak aq FX w (t::l)):ak aq FX w (l++[t]):=h.perm (vm (l₁:=[t]) (l₂:=l))
def ak.Ak{aq w FX l B m d}(h:ak aq FX w (aL B m d::l)):
 d.cache=m.plain/\ak aq FX w (aj B (p1 m d) 120::aj m.cG (aZ bb d.bytes []) 5::jQ m.e3 (d.cache.map (·.1))::bk m.A m.L.length m.c oq 2 (l7 m.L)::l0 m.L::l):=by
 obtain⟨g,h1⟩:=h.Jn;have a:=h1.fi;have b:ak aq FX w (both _ _::(l++[aj B _ _])):=a.Uh;have e:ak aq FX w (both _ _::((l++[aj B _ _])++[aj _ _ 5])):=b.fi.Uh;have f:ak aq FX w (both _ _::(((l++[aj B _ _])++[aj _ _ 5])++[jQ _ _])):=e.fi.Uh;refine⟨g,f.fi.perm ?_⟩;simp;refine(vm (l₁:=[bk _ _ _ _ 2 _,l0 _]) (l₂:=l++[aj B _ _,aj _ _ 5,jQ _ _])).trans ?_;simp;exact vm (l₁:=l) (l₂:=_)
def ak.vv{aq w FX l B m d}(f:d.cache=m.plain)(h:ak aq FX w (aj B (p1 m d) 120::aj m.cG (aZ bb d.bytes []) 5::jQ m.e3 (d.cache.map (·.1))::bk m.A m.L.length m.c oq 2 (l7 m.L)::l0 m.L::l)):
 ak aq FX w (aL B m d::l):=by
 have h1:ak aq FX w (bk m.A m.L.length m.c oq 2 (l7 m.L)::l0 m.L::(l++[aj B (p1 m d) 120,aj m.cG (aZ bb d.bytes []) 5,jQ m.e3 (d.cache.map (·.1))])):=h.perm (by grind[vm,bk,l0])
 have r:∀(a b c s),ak aq FX w (s::(l++[a,b,c]))->ak aq FX w (c::s::(l++[a,b])):=λa b c s h=>h.perm (by have e:s::(l++[a,b,c])=(s::(l++[a,b]))++[c]:=a8;rw[e];exact vm)
 have g:∀(a b s),ak aq FX w (s::(l++[a,b]))->ak aq FX w (b::s::(l++[a])):=λa b s h=>h.perm (by have e:s::(l++[a,b])=(s::(l++[a]))++[b]:=a8;rw[e];exact vm);have i:∀(a s),ak aq FX w (s::(l++[a]))->ak aq FX w (a::s::l):=λa s h=>h.perm (by grind[vm]);exact((i _ _ (g _ _ _ (r _ _ _ _ h1.star).star).star).star).nW f
structure dv (d:dn):Prop where
 kz:1<=d.size
 sS:1<=d.cnt
 len:d.bytes.length=d.cnt*d.size
 small:d.cnt*d.size<=1048576
 cache:∀x∈d.cache,x.1<d.cnt/\x.2.length=d.size
 dI:d.cache.length<=1073741824
 wr:c4 d.writes
def dv.B5{d}(h:dv d):d.cnt<=1048576/\d.size<=1048576:=by have h1:=h.small;have a:=zW d.cnt h.kz;have b:=Hj d.size h.sS;omega
def Has.dev{w B m d}(h:Has w (aL B m d)):aU w B (p1 m d) 120:=h.1.2.1
abbrev c0(B:Nat):Value:=ax (ab ⟨B,0,af⟩)
def RJ B m d w(hb:aU w B (p1 m d) 120)(b:dv d):
 aD aw 203 #[ax (ab ⟨B,0,af⟩)] w λe w'=>e=aB (J R (d.cnt:Int))/\ar w w':=by
 have c:d.bytes.length/d.size=d.cnt:=by rw[b.len];exact Nat.mul_div_cancel _ b.kz
 have f:=b.B5;go_enter func203,ntmps203;have a:=bc w;go_step;refine ah ?_;refine iB ?_;refine bN a [] (λ_ _=>a1) (λ_ _=>emp) (λ_=>[]) (λ_=>[]) (λ_=>[]) [] (λg=>?_);refine da ?_;refine aN (ae _ _ _) (λ_ _ a=>fw aa aa (aU.aG hb a.only) aa ay) ?_;refine hD ?_;refine aN (J _ _) (λ_ _ a=>fw aa aa (aU.aG hb a.only) aa ay) ?_;refine aN _ (λ_ _ _=>Ac 3 _ _ 3 aa _ _ _ aa aa b.kz c ad) ?_;refine aK ?_;refine bU λw1 a=>?_;go_wp2_with fail;go_ret;exact⟨aa,a.only⟩
def w4 B m d w(hb:aU w B (p1 m d) 120)(b:dv d):
 aD aw 51 #[ax (ab ⟨B,0,af⟩)] w λe w'=>e=aB (J R (d.size:Int))/\ar w w':=by
 go_enter func51,ntmps51;have a:=bc w;go_step;refine ah ?_;refine cK ?_;refine pk (ai ao) ?_;refine n3 ?_;refine iL hb a.only ?_;refine bP ?_;go_wp2_with fail;go_ret;exact⟨aa,a.only⟩
def Lp B m d w(hb:aU w B (p1 m d) 120)(b:dv d):
 aD aw 124 #[ax (ab ⟨B,0,af⟩)] w λe w'=>e=aB (J R (d.cnt:Int))/\ar w w':=by
 go_enter func124,ntmps124;have a:=bc w;go_step;refine ah ?_;refine cK ?_;refine pk (ai ao) ?_;refine jz ?_;refine bH (RJ B m d _ (aU.aG hb a.only) b) a (λw1 a=>?_);refine bP ?_;go_wp2_with fail;go_ret;exact⟨aa,a.only⟩
def Zp B m d(i:Nat)(hi:i<d.cnt)w(hb:aU w B (p1 m d) 120)(b:dv d):
 aD aw 146 #[ax (ab ⟨B,0,af⟩),J R (i:Int)] w λe w'=>e=aB (ae (fF (ab ⟨m.cG,0,af⟩) d.bytes.length (i*d.size) 1) d.size (d.bytes.length -i*d.size))/\ar w w':=by
 have c:i*d.size+d.size=(i+1)*d.size:=aF;have hle:(i+1)*d.size<=d.bytes.length:=by rw[b.len];exact o2 _ hi
 have hsm:d.bytes.length<=1048576:=by rw[b.len];exact b.small
 have f:=b.B5;go_enter func146,ntmps146;have a:=bc w;go_step;refine ah ?_;refine iB ?_;refine bN a [] (λ_ _=>a1) (λ_ _=>emp) (λ_=>[]) (λ_=>[]) (λ_=>[]) [] (λg=>?_);refine da ?_;refine aN (ae _ _ _) (λ_ _ a=>fw aa aa (aU.aG hb a.only) aa ay) ?_;refine hD ?_;refine aN (J _ _) (λ_ _ a=>fw aa aa (aU.aG hb a.only) aa ay) ?_;refine aN _ (λ_ _ _=>nM 3 _ _ 3 aa _ _ ((i*d.size:Nat):Int) aa aa aY ad ad) ?_;refine aK ?_;refine aN _ (λ_ _ _=>mZ 3 _ _ 3 aa _ _ ((i+1:Nat):Int) aa aa ad ad ad) ?_;refine da ?_;refine aN (J _ _) (λ_ _ a=>fw aa aa (aU.aG hb a.only) aa ay) ?_;refine aN _ (λ_ _ _=>nM 3 _ _ 3 aa _ _ (((i+1)*d.size:Nat):Int) aa aa aY ad ad) ?_;refine aN _ (λ_ _ _=>Jh 22 5 1 _ _ _ aa dL ay _ _ _ _ _ _ aa aa aa c hle) ?_;refine aK ?_;refine bU λw1 a=>?_;go_wp2_with fail;go_ret;exact⟨aa,a.only⟩
def jw(d:dn)(i:Int):Int:=if d.down=az then 18 else if i<0\/(d.cnt:Int)<=i then 2 else 0
def Ln{w B m d b}(h:aU w B (p1 m d) 120)(e:d.down=b):aU w B #[J R (d.size:Int),ae (ab ⟨m.cG,0,af⟩) d.bytes.length d.bytes.length,J R d.writes,J aH d.keep,J R d.ep,J R d.eP,J R d.ix,J R d.hi,J R d.mo,ae m.A m.L.length m.c,dj (ab m.e3),ai b] 120:=by subst e;exact h
def RH B m d i w(hb:aU w B (p1 m d) 120)(h:dv d):
 aD aw 281 #[c0 B,J R i] w λe w'=>e=aB (J R (jw d i))/\ar w w':=by
 have f:=hid hb;clear hb;rcases cS:d.down with _|_
 .by_cases j:i<0
  .have b:jw d i=2:=by grind[jw]
   rw[b];clear b;have c:=hid cS;clear cS;go_enter O7,Pe;have a:=bc w;go_step;refine ah ?_;refine ag ?_;refine an ?_;go_step;refine ah ?_;refine ag ?_;refine pk (ai ao) ?_;refine ag ?_;refine an ?_;go_step;refine ah ?_;refine v3 ?_;refine iL (Ln f c) a.only ?_;refine ag ?_;refine an ?_;go_step;refine ah ?_;refine ag ?_;refine bu (ai az) ?_;refine ag ?_;iterate 6 refine ps ?_
   refine pk (ai az) ?_;refine ag ?_;refine an ?_;go_step;refine ah ?_;refine ag ?_;refine an ?_;go_wp2_with fail;go_ret;exact⟨aa,a.only⟩
  .by_cases h1:(d.cnt:Int)<=i
   .have b:jw d i=2:=by grind[jw]
    rw[b];clear b;have c:=hid cS;clear cS;go_enter O7,Pe;have a:=bc w;go_step;refine ah ?_;refine ag ?_;refine an ?_;go_step;refine ah ?_;refine ag ?_;refine pk (ai ao) ?_;refine ag ?_;refine an ?_;go_step;refine ah ?_;refine v3 ?_;refine iL (Ln f c) a.only ?_;refine ag ?_;refine an ?_;go_step;refine ah ?_;refine ag ?_;refine bu (ai ao) ?_;refine v5 ?_;refine aP (RJ B m d _ (aU.aG f a.only) h) ?_;rintro e w1 ⟨rfl,g⟩;replace a:=a.aG g;refine aQ ?_;refine bu (ai az) ?_;refine pk (ai az) ?_;refine ag ?_;refine an ?_;go_step;refine ah ?_;refine ag ?_;refine an ?_;go_wp2_with fail;go_ret;exact⟨aa,a.only⟩
   .have b:jw d i=0:=by grind[jw]
    rw[b];clear b;have c:=hid cS;clear cS;go_enter O7,Pe;have a:=bc w;go_step;refine ah ?_;refine ag ?_;refine an ?_;go_step;refine ah ?_;refine ag ?_;refine pk (ai ao) ?_;refine ag ?_;refine an ?_;go_step;refine ah ?_;refine v3 ?_;refine iL (Ln f c) a.only ?_;refine ag ?_;refine an ?_;go_step;refine ah ?_;refine ag ?_;refine bu (ai ao) ?_;refine v5 ?_;refine aP (RJ B m d _ (aU.aG f a.only) h) ?_;rintro e k ⟨rfl,g⟩;replace a:=a.aG g;refine aQ ?_;refine bu (ai ao) ?_;refine pk (ai ao) ?_;refine ag ?_;refine an ?_;go_step;refine ah ?_;refine ag ?_;refine an ?_;go_wp2_with fail;go_ret;exact⟨aa,a.only⟩
 .have b:jw d i=18:=by grind[jw]
  rw[b];clear b;have c:=hid cS;clear cS;go_enter O7,Pe;have a:=bc w;go_step;refine ah ?_;refine ag ?_;refine an ?_;go_step;refine ah ?_;refine ag ?_;refine pk (ai ao) ?_;refine ag ?_;refine an ?_;go_step;refine ah ?_;refine v3 ?_;refine iL (Ln f c) a.only ?_;refine ag ?_;refine an ?_;go_step;refine ah ?_;refine ag ?_;refine an ?_;go_wp2_with fail;go_ret;exact⟨aa,a.only⟩
section
open Go.RowKit Go.MapKept Go.WideMaps
def Mx:ss aw 3 yM c4:=
 ⟨Maps.int_keyed jJ,λh=>⟨_,Maps.keyOf_int_mk jJ (WalkArith.wf_i64 h)⟩,λh=>by grind[yM]⟩
def K9{w}{B t:Nat}{bs}(h:aU w B (aZ bb bs []) t):bX w (ab ⟨B,0,af⟩) bs:=λ_=>⟨B,0,rfl,λj a=>by rw[jt];exact h.cell j (KY a)⟩
def Has.Zn{w B m d}(h:Has w (aL B m d)):aU w m.cG (aZ bb d.bytes []) 5:=h.1.2.2.1.1
def Has.last{w B m d}(h:Has w (aL B m d)):(jQ m.e3 (d.cache.map (·.1))).p w:=h.1.2.2.1.2.1.1
def Has.row{w B m d}(h:Has w (aL B m d)):Row 0 w m.A m.L.length m.c oq 2 (l7 m.L):=h.1.2.2.1.2.1.2.1.1
def Has.atd{w B m d}(h:Has w (aL B m d)):∀x∈m.L,e6 0 w x.A x.c x.bs:=h.1.2.2.1.2.1.2.1.2.1
def Has.plain{w B m d}(h:Has w (aL B m d)):d.cache=m.plain:=h.1.1
section
variable {o:cU} {a:bT} {w:aM}
def Ol:∀w:aM,(zeroValue 3).run aw w=a6 (J R 0) w:=λw=>Uk ay w
def adH{m x}{b i:Nat}{l}(ho:o.op=.lookup 118 m x az)(g:a.eval m=dj (ab b))(hx:a.eval x=J R (i:Int))(h:(jQ b l).p w)(hi:i<=1073741824):
 (bt a.eval o).run aw w=a6 (c9 (bm #[((pn l i).map (λk=>J R (k:Int))).getD (J R 0),ai (pn l i).isSome])) w:=by
 obtain⟨j,f,_,d⟩:=h;have c:=(f.lookup Mx sw Ol (x:=(i:Int)) ⟨ad,ad⟩).2;rw[d i]at c;unfold bt;simp only[ho,g,hx];have e:(yM (i:Int))=J R (i:Int):=rfl;rw[e]at c;simp only[ga,c,jc,jK];cases pn l i<;>rfl
end
def Zg B m d w(h:Has w (aL B m d))(f:dv d):
 aD aw 15 #[c0 B] w λe w'=>∃b c,e=aB (ae b d.bytes.length c)/\cf w w' (cg b c d.bytes):=by
 have hb:=h.dev;have j:aE (∀W,ar w W->bX W (ab ⟨m.cG,0,af⟩) d.bytes):=hid (λW g=>(K9 h.Zn).aG g);have hsm:d.bytes.length<=1048576:=by rw[f.len];exact f.small
 go_enter func15,ntmps15;have a:=bc w;go_step;refine ah ?_;refine ag ?_;refine an ?_;go_step;refine ah ?_;refine ag ?_;refine aI (ai ao) (by(show _=_;kernel_rfl)) ?_;refine an ?_;go_step;refine ah ?_;iterate 4 refine ag ?_
 refine aI (ae (ab ⟨m.cG,0,af⟩) d.bytes.length d.bytes.length) (fw aa aa (aU.aG hb a.only) aa ay) ?_;refine aP (wZ (ab ⟨m.cG,0,af⟩) d.bytes.length d.bytes _ (j _ a.only) ad) ?_;rintro e w1 ⟨i,k,rfl,hrow,g⟩;replace a:=a.jE g (Row.nZ hrow);refine aQ ?_;refine ag ?_;refine an ?_;go_wp2_with fail;go_ret;exact⟨i,k,aa,a.fresh 0⟩
def Lq B m d w(b:Has w (aL B m d)):
 aD aw 21 #[c0 B] w λe w'=>e=aB (av #[J R d.ep,J R d.eP,J R d.ix,J R d.hi,J R d.mo])/\ar w w':=by
 have hb:=b.dev;go_enter func21,ntmps21;have a:=bc w;go_step;refine ah ?_;refine bA a #[J R 0,J R 0,J R 0,J R 0,J R 0] (λc w1 a=>?_);refine b' ?_;refine pk (ai ao) ?_;refine jz ?_;refine aI (av #[J R d.ep,J R d.eP,J R d.ix,J R d.hi,J R d.mo]) (mi (cs':=#[J R d.ep,J R d.eP,J R d.ix,J R d.hi,J R d.mo]) aa aa (aU.aG hb a.only) ay (of_decide_eq_true ay) ay ay) ?_;refine a' a 0 (av #[J R d.ep,J R d.eP,J R d.ix,J R d.hi,J R d.mo]) (λf a=>?_);refine an ?_;go_wp2_with fail;refine dp (v:=_) (jd aa _ _ _ _ _ _ _ aa (a.aX 0) underlying68 aa ay) aa (⟨aa,a.only⟩)
def jo(d:dn)(i:Nat):List Int:=match pn (d.cache.map (·.1)) i with|some k=>((d.cache[k]?).map (·.2)).getD []|none=>(d.bytes.drop (i*d.size)).take d.size
theorem C9{d}(h:dv d){i}(hi:i<d.cnt):(jo d i).length=d.size:=by
 unfold jo;cases hq:pn (d.cache.map (·.1)) i with
 |some k=>
  have h1:=Tq hq;rw[lr]at h1;cases hk:d.cache[k]? with
  |none=>grind
  |some x=>simpa [hk]using(h.cache x (cY hk)).2
 |none=>
  have h1:(i+1)*d.size<=d.cnt*d.size:=o2 _ hi;rw[Nat.add_mul,Nat.one_mul]at h1;have:=h.len;simp;omega
def Zl{w B m d A}(h:aU w B (p1 m d) 120)(e:m.A=A):aU w B #[J R (d.size:Int),ae (ab ⟨m.cG,0,af⟩) d.bytes.length d.bytes.length,J R d.writes,J aH d.keep,J R d.ep,J R d.eP,J R d.ix,J R d.hi,J R d.mo,ae A m.L.length m.c,dj (ab m.e3),ai d.down] 120:=by subst e;exact h
def RI{d i}(h:jw d i=0):∃n:Nat,i=n/\n<d.cnt:=by
 unfold jw at h;split at h;·omega
 .split at h;·omega
  .exact⟨i.toNat,ad,ad⟩
def Zo B m d i w(f:Has w (aL B m d))(j:dv d):
 aD aw 209 #[c0 B,J R i] w λe w'=>(jw d i≠0/\e=aB (bm #[ae af 0 0,J R (jw d i)])/\ar w w')\/(jw d i=0/\∃n:Nat,i=n/\n<d.cnt/\∃r u,e=aB (bm #[ae r d.size u,J R 0])/\cf w w' (cg r u (jo d n))):=by
 have hb:=f.dev;have E:=hid hb;clear hb;have z:aE (∀W,ar w W->aD aw 281 #[c0 B,J R i] W λe w'=>e=aB (J R (jw d i))/\ar W w'):=hid (λW g=>RH B m d i W (f.aG g).dev j);obtain⟨bq,o⟩:=ex (jw d i);rw[o]at z;by_cases I:bq=0
 .subst I;obtain⟨n,rfl,hn⟩:=RI o;have s:=hid o;clear o;have fZ:=j.B5;have hsm:d.bytes.length<=1048576:=by rw[j.len];exact j.small
  have H:aE (∀W,ar w W->(jQ m.e3 (d.cache.map (·.1))).p W):=hid (λW g=>(jQ _ _).only f.last (λb hb=>by have X:b=m.e3:=hb;rw[X];obtain⟨bg,Z,_⟩:=f.last;exact Z.lt) g (λ_ _ h=>h));rcases hq:pn (d.cache.map (·.1)) n with _|k
  .have hr:jo d n=(d.bytes.drop (n*d.size)).take d.size:=by rw[jo,hq]
   have C:=hid hr;clear hr;have F:=hid hq;clear hq;have hle:n*d.size+d.size<=d.bytes.length:=by have h1:=o2 d.size hn;rw[tT]at h1;rw[j.len];exact h1
   have T:aE (∀W,ar w W->bX W (fF (ab ⟨m.cG,0,af⟩) d.bytes.length (n*d.size) 1) (jo d n)):=hid (λW g=>by have h:=bX.win ((K9 f.Zn).aG g) (b4 _) (i:=n*d.size) (q:=n*d.size+d.size) hle;rw[tS]at h;rw[C];exact h);have t:=hid (C9 j hn);go_enter Vx,V0;have a:=bc w;go_step;refine ah ?_;refine v2 ?_;refine hE ?_;refine bH (z.out _ a.only) a (λw1 a=>?_);refine cK ?_;refine pk (ai ao) ?_;refine jz ?_;refine iL E.out a.only ?_;refine ag ?_;refine aI (bm #[J R 0,ai ao]) (by(refine(adH (x:=bj 20) (m:=bj 19) aa aa aa (H _ a.only) (i:=n) ad).trans ?_;rw[F];rfl)) ?_;refine v5 ?_;refine ah ?_;refine xU ?_;refine bH (Zp B m d n hn _ (f.aG a.only).dev j) a (λaW a=>?_);refine aP ((by have q:=wZ (fF (ab ⟨m.cG,0,af⟩) d.bytes.length (n*d.size) 1) (d.bytes.length -n*d.size) (jo d n) _ (T.out _ a.only) (by rw[t];omega);rw[t.out]at q;exact q)) ?_;rintro e bI ⟨P,V,rfl,hrow,g⟩;replace a:=a.jE g (Row.nZ (by rw[t.out];exact hrow));refine aQ ?_;refine dZ ?_;go_wp2_with fail;go_ret2;exact b8 ⟨s,n,aa,hn,P,V,aa,a.fresh 0⟩
  .have v:=Tq hq;rw[lr]at v;obtain⟨y,l⟩:∃y,m.L[k]?=ab y:=by rw[f.plain,nz.plain,lr]at v;cases l:m.L[k]? with|none=>(rw[l]at v;cases v)|some y=>exact⟨y,aa⟩
   have hr:jo d n=y.bs:=by unfold jo;rw[hq,f.plain];simp[nz.plain,l]
   have C:=hid hr;clear hr;have F:=hid hq;have pL:=hid l;have Y:k<m.L.length:=(List.getElem?_eq_some_iff.1 l).1;have N:=f.atd y (cY l);have hlen:y.bs.length=d.size:=by rw[<-C];exact C9 j hn
   have ff:m.L.length<=1073741824:=by have h:=j.dI;rw[f.plain,nz.plain,gV]at h;exact h
   obtain⟨D,K,hc1⟩:=f.row.cell (Rr l).2;have Q:aE (∀W,ar w W->W.cell? ⟨D,k*2+1,af⟩=ab (ae y.A d.size y.c)):=hid (λW g=>by rw[<-hlen];exact g.cell hc1 (λh=>h));have S:aE (∀W,ar w W->aD aw 65 #[ae y.A d.size y.c] W λe w'=>∃r u,e=aB (ae r d.size u)/\w'.ownsRow W.heap.size 5 1 (ae r d.size u) d.size ((jo d n).map bb)/\ar W w'):=hid (λW g=>by have q:=wZ y.A y.c y.bs W (N.1.aG g) ad;rw[hlen]at q;rw[C];exact q);have t:=hid (C9 j hn);have G:=hid K;clear hq l v N hc1 hlen K;go_enter Vx,V0;have a:=bc w;go_step;refine ah ?_;refine v2 ?_;refine hE ?_;refine bH (z.out _ a.only) a (λcc a=>?_);refine cK ?_;refine pk (ai ao) ?_;refine jz ?_;refine iL (Zl E.out G.out) a.only ?_;refine ag ?_;refine aI (bm #[J R (k:Int),ai az]) (by(refine(adH (x:=bj 20) (m:=bj 19) aa aa aa (H _ a.only) (i:=n) ad).trans ?_;rw[F];rfl)) ?_;refine v5 ?_;refine ah ?_;refine UW ?_;refine iL (Zl E.out G.out) a.only ?_;refine ag ?_;refine aI (ax (ab ⟨D,(k*2),af⟩)) (cq 117 258 2 (bj 28) (bj 29) aa Tryz.underlying117 ay D 0 (m.L.length) (m.c) k ((k*2)) aa aa Y ad) ?_;refine aI (ax (ab ⟨D,(k*2+1),af⟩)) (by(go_simp;try simp[Addr.add])) ?_;refine aI (ae y.A d.size y.c) (by(have h:=Q _ a.only;go_simp)) ?_;refine aP (S _ a.only) ?_;rintro e cJ ⟨O,U,rfl,hrow,g⟩;replace a:=a.jE g (Row.nZ (by rw[t.out];exact hrow));refine aQ ?_;refine dZ ?_;go_wp2_with fail;go_ret2;exact b8 ⟨s,n,aa,hn,O,U,aa,a.fresh 0⟩
 .have M:¬bq=0:=I;have s:=hid o;clear o;go_enter Vx,V0;have a:=bc w;go_step;refine ah ?_;refine v2 ?_;refine hE ?_;refine bH (z.out _ a.only) a (λc5 a=>?_);refine cK ?_;refine aI (ai az) (by(go_simp;try simp[M])) ?_;refine ah ?_;refine v3 ?_;refine an ?_;go_wp2_with fail;go_ret2;exact bM ⟨by rw[s];exact M,by rw[s];rfl,a.only⟩
end
section
open Go.RowKit Go.MapKept Go.WideMaps
open Go.ChangeMaps (setBlock heap_setBlock_same heap_setBlock_other)
def xH(size:Nat)(bs:List Int)(i:Nat)(b:List Int):List Int:=bs.take (i*size)++b++bs.drop (i*size+b.length)
def atF{size i bs b}(hb:b.length=size)(h:(i+1)*size<=bs.length):(xH size bs i b).length=bs.length:=by grind[xH]
def nV(d:dn)(a:Nat->Bool):Nat->List Int
 |0=>d.bytes
 |q+1=>match d.cache[q]? with
  |some x=>if a q=az then xH d.size (nV d a q) x.1 x.2 else nV d a q
  |none=>nV d a q
def q6(d:dn)(a:Nat->Bool):dn:={d with bytes:=nV d a d.cache.length,cache:=[]}
theorem FM{d}(b:dv d)c:∀q,(nV d c q).length=d.bytes.length
 |0=>aa
 |q+1=>by
  have a:=FM b c q;unfold nV;split
  .rename_i x hx;split;·have h:=b.cache x (cY hx);rw[atF h.2 (by rw[a,b.len];exact o2 _ h.1),a]
   .exact a
  .exact a
def M'{d}(a:dv d)b:dv (q6 d b):=
 ⟨a.kz,a.sS,(FM a b _).trans a.len,a.small,λx hx=>absurd hx fQ,cF _,a.wr⟩
theorem afY{B c i}(h:i<c):fF (ab ⟨B,0,af⟩) c i 1=ab ⟨B,i,af⟩:=by grind[fF,nL]
def Row.range{w}{N g n c e sz k:Nat}{A xs cs}(h:Row N w A n c e sz xs)(a:A=ab ⟨g,0,af⟩)(hk:∀j v,cs[j]?=ab v->xs[k+j]?=ab v):w.rangeAt g k cs:=λj v hv=>by obtain⟨g2,e,hc⟩:=h.cell (hk j v hv);rw[a]at e;cases e;exact hc
theorem akw{bs b size i}:((aZ bb bs []).toList.take (i*size)++b.map bb++(aZ bb bs []).toList.drop (i*size+b.length)).toArray=aZ bb (xH size bs i b) []:=by simp[aZ,xH]
section
variable {P:ee} {o:cU} {a:bT} {w:aM}
def auJ {d g} {b f c B off n cap c2 t:Nat} {aJ old new cs} (ho:o.op=nB {callee:=oR .copy,args:=#[d,g],argTypes:=#[b,f]}) (i:a.eval d=ae (ab ⟨B,off,af⟩) n cap) (k:a.eval g=ae aJ n c2) (e:aU w B old t) (hr:Cells w 1 aJ n cs) (hn:0<n)
 (lR:off+n<=old.size) (h1:∀v∈cs,v.oneCell'=az) (kP:(old.toList.take off++cs++old.toList.drop (off+cs.length)).toArray=new) (hu:P.underlying b=ab (iF c)) (hs:(P.info? c).map (·.size)=ab 1):
 ∃w',(bt a.eval o).run P w=a6 (c9 (J R (n:Int))) w'/\Turned w w' (aj B old t) (aj B new t):=by
 obtain⟨h,rfl,j⟩:=hr.2 hn;have hcs:cs.length=n:=by simpa using hr.1
 have hr:=Ke (P:=P) w b f o.type c B off n cap h n c2 old t cs hu hs e aF j ad h1;refine⟨w.setRow B (old.toList.take off++cs++old.toList.drop (off+n)).toArray,?_,vt (au.setRow w B _) ?_⟩;·unfold bt;simp only[ho,nD,nC,qF,ga,jK,jc,oo,jM,kp,i,k,hr,hcs];rfl
 .rw[<-kP,hcs];exact e.setRow _
def auI{x}{t k e b:Nat}{l}(ho:o.op=nB {callee:=oR .clear,args:=#[x],argTypes:=#[t]})(hx:a.eval x=dj (ab b))(d:P.underlying t=ab (.map k e))(h:(jQ b l).p w):
 ∃w',(bt a.eval o).run P w=a6 (c9 (bm #[])) w'/\Turned w w' (jQ b l) (jQ b []):=by
 obtain⟨g,⟨es,c,hb,_⟩,_⟩:=h
 refine⟨kV w b _,?_,⟨aa,aa,aa,by simp[kV],λi _ hi=>heap_setBlock_other hb _ (λe=>hi (by rw[e];rfl))⟩,⟨[],⟨_,_,heap_setBlock_same hb _,stamped_empty c,a8,a8,a8⟩,b4 _,λi=>rfl⟩,λi hi=>⟨by have f:i=b:=hi;grind[kV],bM hi⟩⟩;unfold bt;simp[ho,nD,nC,qF,hx,Builtin.clear_,gE d,MapKept.run_getObj_map hb,MapKept.run_setObj_map _ hb,Result.andThen,kV]
end
def RL B m d (g:Nat) lb f w (p:Has w (aL B m d)) (k:dv d) (F:∀args w,(callFunc g args).run aw w=a6 (.enter g args) w)
 (hk:∀q W,q<m.L.length->au (aL B m d).cR w W->aU W B (p1 m d) 120->aD aw g (#[J R (q:Int)]++lb) W λe w'=>e=aB (ai (f q))/\ar W w'):
 aD aw 63 #[c0 B,dC (ed g) #[] lb] w λe w'=>e=aB (bm #[])/\∃T,Turned w w' (aL B m d) (aL B T (q6 d f)):=by
 obtain⟨cG,e3,A,c,L⟩:=m;have X:L.length<=1073741824:=by have h:=k.dI;rw[p.plain,nz.plain,gV]at h;exact h
 have hpl:d.cache=L.map (λx=>(x.sec,x.bs)):=p.plain;have C:=hid hpl;have y:aE (∀q W,q<L.length->au (aL B ⟨cG,e3,A,c,L⟩ d).cR w W->aU W B #[J R (d.size:Int),ae (ab ⟨cG,0,af⟩) d.bytes.length d.bytes.length,J R d.writes,J aH d.keep,J R d.ep,J R d.eP,J R d.ix,J R d.hi,J R d.mo,ae A L.length c,dj (ab e3),ai d.down] 120->aD aw g (#[J R (q:Int)]++lb) W λe w'=>e=aB (ai (f q))/\ar W w'):=hid hk;have t:=hid F;clear hk F hpl;go_enter func63,ntmps63;have a:ak w (aL B ⟨cG,e3,A,c,L⟩ d).cR w [aj B #[J R (d.size:Int),ae (ab ⟨cG,0,af⟩) d.bytes.length d.bytes.length,J R d.writes,J aH d.keep,J R d.ep,J R d.eP,J R d.ix,J R d.hi,J R d.mo,ae A L.length c,dj (ab e3),ai d.down] 120,aj cG (aZ bb (d.bytes) []) 5,jQ e3 (d.cache.map (·.1)),bk A L.length c 258 2 (l7 L),l0 L]:=(ak.Ak (ak.start p)).2;go_upto_region 0 with fail;refine cm ?_;refine v3 ?_;refine pl a 0 9 ?_;refine dZ ?_;go_wp2_with fail;go_loopw [11] (λr wr=>∃q:Nat,q<=L.length/\r=J R q/\ak w (aL B ⟨cG,e3,A,c,L⟩ d).cR wr [aj B #[J R (d.size:Int),ae (ab ⟨cG,0,af⟩) d.bytes.length d.bytes.length,J R d.writes,J aH d.keep,J R d.ep,J R d.eP,J R d.ix,J R d.hi,J R d.mo,ae A L.length c,dj (ab e3),ai d.down] 120,aj cG (aZ bb (nV d f q) []) 5,jQ e3 (d.cache.map (·.1)),bk A L.length c 258 2 (l7 L),l0 L]) (λr wr=>L.length -(cy r).toNat);case atStart=>exact⟨0,ad,aa,a⟩
 case round=>
  clear a;obtain⟨q,Z,rfl,a⟩:=hrel;by_cases hlt:q<L.length
  .have P:(q:Int)<(L.length:Int):=ad;obtain⟨x,hx⟩:∃x,L[q]?=ab x:=⟨_,cC hlt⟩;obtain⟨O,G,_⟩:=(a.atR 3).cell (Rr hx).1;have H:d.cache[q]?=ab (x.sec,x.bs):=by rw[C,lr,hx];rfl
   have Q:=k.cache _ (cY H);obtain⟨o,n⟩:=Q;have o:x.sec<d.cnt:=o;have n:x.bs.length=d.size:=n;have S:=cY hx;have z:aE (nV d f (q+1)=if f q=az then xH d.size (nV d f q) x.sec x.bs else nV d f q):=hid (by grind[nV]);have D:=hid (Rr hx);have E:=hid n;have s:=hid G;have Y:x.sec*d.size+d.size<=d.bytes.length:=by have h1:=o2 d.size o;rw[tT]at h1;rw[k.len];exact h1
   have hs1:=k.kz;have N:aE (∀W,aU W B #[J R (d.size:Int),ae (ab ⟨cG,0,af⟩) d.bytes.length d.bytes.length,J R d.writes,J aH d.keep,J R d.ep,J R d.eP,J R d.ix,J R d.hi,J R d.mo,ae A L.length c,dj (ab e3),ai d.down] 120->aD aw 146 #[c0 B,J R (x.sec:Int)] W λe w'=>e=aB (ae (ab ⟨cG,x.sec*d.size,af⟩) d.size (d.bytes.length -x.sec*d.size))/\ar W w'):=hid (λW h=>by have q:=Zp B ⟨cG,e3,A,c,L⟩ d x.sec o W h k;grind[afY]);clear H hx n G;go_upto_region 2 with fail;refine cm ?_;refine ag ?_;refine aI _ (cq _ 258 2 _ _ aa Tryz.underlying117 ay _ _ _ c q ((q*2)) (by show ae A _ _=_;rw[s]) aa hlt ad) ?_;refine aI (av #[J R (x.sec:Int),ae x.A d.size x.c]) (by(refine eC 258 (bj 14) aa O (q*2) aa [J R (x.sec:Int),ae x.A d.size x.c] (Row.range (a.atR 3) s (λj v I=>?_)) underlying258 aa ay;obtain rfl|rfl|V:j=0\/j=1\/2<=j:=ad;(cases I;exact D.1);(cases I;rw[<-E];exact D.2);grind)) ?_;refine bA a #[J R 0,ae af 0 0] (λU w1 a=>?_);refine ag ?_;refine a' a 0 (av #[J R (x.sec:Int),ae x.A d.size x.c]) (λaW a=>?_);refine an ?_;rcases AF:f q with _|_
   .have l:=hid AF;clear AF;refine hE ?_;refine bH ((by have h:=y.out q _ hlt a.only (a.aX 1);rw[l.out]at h;exact h)) a (λbI a=>?_) (hr:=by(go_simp;exact t _ _));refine ah ?_;refine pad (q:Int) 1 ((q+1:Nat):Int) ?_;refine bP ?_;go_wp2_with fail;go_roundw;case rel=>exact⟨q+1,ad,aa,by rw[z,l];exact a.pick [1,2,3,4,5]⟩
    case measure=>grind[cy]
   .have l:=hid AF;clear AF;refine hE ?_;refine bH ((by have h:=y.out q _ hlt a.only (a.aX 1);rw[l.out]at h;exact h)) a (λcc a=>?_) (hr:=by(go_simp;exact t _ _));refine cx ?_;refine bN a [5,8] (λi _=>match i with|5=>ae (ab ⟨cG,x.sec*d.size,af⟩) d.size (d.bytes.length -x.sec*d.size)|8=>J R (d.size:Int)|_=>a1) (λ_=>λ|8=>aj cG (aZ bb (xH d.size (nV d f q) x.sec x.bs) []) 5|_=>emp) (λ|8=>[2]|_=>[]) (λ|4=>[0]|5=>[1]|7=>[0]|8=>[5]|_=>[]) (λ_=>[]) [0,1,3,4,5,11,14] (λus=>?_);refine hD ?_;refine dl 0 0 ?_;refine dD (λ_ _ a=>N _ (a.aX 0)) ?_;refine aK ?_;refine dl 0 1 ?_;refine HA (J R (d.size:Int)) (λ_ _ a=>auJ aa aa aa (a.aX 0) (by have h:=((a.at 1:∀x∈L,e6 0 _ x.A x.c x.bs) x S).1.cells;rw[E.out]at h;exact h) k.kz (by grind[kr,FM]) (xE _) (show _=aZ bb (xH d.size (nV d f q) x.sec x.bs) []from by grind[akw]) dL ay) ?_;refine bU λcJ a=>?_;replace a:=a.drop 5;refine ah ?_;refine pad (q:Int) 1 ((q+1:Nat):Int) ?_;refine bP ?_;go_wp2_with fail;go_roundw;case rel=>exact⟨q+1,ad,aa,by rw[z,l];exact a.pick [1,5,2,3,4]⟩
    case measure=>grind[cy]
  .have P:¬(q:Int)<(L.length:Int):=ad;obtain rfl:q=L.length:=ad;go_upto_region 6 with fail;refine cm ?_;refine v3 ?_;refine a' a 0 (ae af 0 0) (λc5 a=>?_);refine jz ?_;refine pl a 0 10 ?_;refine C3 a 2 (auI aa aa sw (a.at 2)) (λdK a=>?_);refine an ?_;replace a:=(((a.drop 4).drop 3).new (l0 []) ⟨au.refl _ _,λx hx=>absurd hx fQ,λb ⟨x,hx,_⟩=>absurd hx fQ⟩).new (bk af 0 0 oq 2 []) ⟨au.refl _ _,Row.nil _ _ _ _,λb ⟨_,_,e⟩=>aF⟩;have M:=hid (show q6 d f={d with bytes:=nV d f L.length,cache:=[]}from by rw[q6,C,gV]);have u:=a.pk [2,3,4,0,1];have hbl:=FM k f L.length;rw[<-hbl]at u;have K:=ak.vv (B:=B) (m:=⟨cG,e3,af,0,[]⟩) (d:={d with bytes:=nV d f L.length,cache:=[]}) aa u;go_wp2_with fail;first|go_end0|refine bodyPost_ret (results_none rfl _ _ _) rfl ?_
   exact⟨aa,_,by rw[M.out];exact K.fM 0⟩
end
open Go.RowKit Go.MapKept Go.WideMaps
open Go.ChangeMaps (setBlock heap_setBlock_same heap_setBlock_other)
def aq2 q w:
 aD aw 327 #[J R q] w λe w'=>e=aB (ai az)/\ar w w':=by
 go_enter Tryz.func327,ntmps327;have a:=bc w;go_step;refine ah ?_;refine ag ?_;refine ah ?_;refine ag ?_;refine an ?_;go_wp2_with fail;go_ret;exact⟨aa,a.only⟩
def aq4 q w:
 aD aw 64 #[J R q] w λe w'=>e=aB (ai ao)/\ar w w':=by
 go_enter Tryz.func64,ntmps64;have a:=bc w;go_step;refine ah ?_;refine ag ?_;refine ah ?_;refine ag ?_;refine an ?_;go_wp2_with fail;go_ret;exact⟨aa,a.only⟩
def k1(d:dn):Int×dn:=if jw d 0≠0 then(jw d 0,d)else(0,{q6 d (λ_=>az)with eP:=R.wrap ((q6 d (λ_=>az)).eP+1)})
def Zm B m d w(p:Has w (aL B m d))(o:dv d):
 aD aw 292 #[c0 B] w λe w'=>e=aB (J R (k1 d).1)/\∃k,Turned w w' (aL B m d) (aL B k (k1 d).2):=by
 obtain⟨bq,i⟩:=ex (jw d 0);have l:aE (∀W,aU W B (p1 m d) 120->aD aw 281 #[c0 B,J R 0] W λe w'=>e=aB (J R bq)/\ar W w'):=hid (λW h=>by have q:=RH B m d 0 W h o;rw[i]at q;exact q);by_cases n:bq=0;·subst n;have g:aE (k1 d=(0,{q6 d (λ_=>az)with eP:=R.wrap ((q6 d (λ_=>az)).eP+1)})):=hid (by grind[k1]);clear i;go_enter Tryz.func292,Tryz.ntmps292;have f:=ak.start p;go_step;refine ah ?_;refine cK ?_;refine bH (l.out _ (f.has 0).dev) f (λw1 f=>?_);refine cK ?_;refine pk (ai ao) ?_;refine an ?_;obtain⟨a,j⟩:=ex (q6 d (λ_=>az));rw[j]at g;have r:aE (∀W,Has W (aL B m d)->aD aw 63 #[c0 B,dC (ed 327) #[] #[]] W λe w'=>e=aB (bm #[])/\∃k,Turned W w' (aL B m d) (aL B k a)):=hid (λW h=>by have q:=RL B m d _ #[] (λ_=>az) W h o (kW Tryz.func327 ay aa) (λq W _ _ _=>aq2 q W);rw[j]at q;exact q);clear j;refine b' ?_;refine aP (r.out _ (f.has 0)) ?_;rintro e u ⟨rfl,b,s⟩;replace f:=f.ek 0 s;refine Be ?_;replace f:=f.Ak;obtain⟨hpl,f⟩:=f;replace f:ak _ _ _ [aj B #[J R (a.size:Int),ae (ab ⟨b.cG,0,af⟩) a.bytes.length a.bytes.length,J R a.writes,J aH a.keep,J R a.ep,J R a.eP,J R a.ix,J R a.hi,J R a.mo,ae b.A b.L.length b.c,dj (ab b.e3),ai a.down] 120,aj b.cG (aZ bb a.bytes []) 5,jQ b.e3 (a.cache.map (·.1)),bk b.A b.L.length b.c oq 2 (l7 b.L),l0 b.L]:=f;refine n3 ?_;refine pl f 0 5 ?_;refine pk (J R (R.wrap (a.eP+1))) ?_;refine v3 ?_;refine a' f 0 (J R (R.wrap (a.eP+1))) (λv f=>?_);refine ah ?_;refine ag ?_;refine an ?_;replace f:ak _ _ _ (aL B b ({a with eP:=R.wrap (a.eP+1)})::[]):=ak.vv hpl (f.pick (l':=[aj B #[J R (a.size:Int),ae (ab ⟨b.cG,0,af⟩) a.bytes.length a.bytes.length,J R a.writes,J aH a.keep,J R a.ep,J R (R.wrap (a.eP+1)),J R a.ix,J R a.hi,J R a.mo,ae b.A b.L.length b.c,dj (ab b.e3),ai a.down] 120,aj b.cG (aZ bb a.bytes []) 5,jQ b.e3 (a.cache.map (·.1)),bk b.A b.L.length b.c oq 2 (l7 b.L),l0 b.L]) [0,1,2,3,4]);go_wp2_with fail;go_ret;exact⟨by rw[g];rfl,b,by rw[g];exact f.fM 0⟩
 .have t:¬bq=0:=n;have g:aE (k1 d=(bq,d)):=hid (by grind[k1]);clear i;go_enter Tryz.func292,Tryz.ntmps292;have f:=ak.start p;go_step;refine ah ?_;refine cK ?_;refine bH (l.out _ (f.has 0).dev) f (λx f=>?_);refine cK ?_;refine aI (ai az) (by(go_simp;try simp[t])) ?_;refine ah ?_;refine dZ ?_;go_wp2_with fail;go_ret;exact⟨by rw[g];rfl,m,by rw[g];exact f.fM 0⟩
def sK(d:dn)(n a:Int):dn:={d with writes:=max n (-1),keep:=a}
def amN B m d(n b)w(f:Has w (aL B m d)):
 aD aw 11 #[c0 B,J R n,J aH b] w λe w'=>e=aB (bm #[])/\Turned w w' (aL B m d) (aL B m (sK d n b)):=by
 go_enter func11,ntmps11;have a:=ak.start f;go_step;refine ah ?_;refine ag ?_;refine pk (ai az) ?_;refine an ?_;replace a:=a.Ak;obtain⟨hpl,a⟩:=a;replace a:ak _ _ _ [aj B #[J R (d.size:Int),ae (ab ⟨m.cG,0,af⟩) d.bytes.length d.bytes.length,J R d.writes,J aH d.keep,J R d.ep,J R d.eP,J R d.ix,J R d.hi,J R d.mo,ae m.A m.L.length m.c,dj (ab m.e3),ai d.down] 120,aj m.cG (aZ bb d.bytes []) 5,jQ m.e3 (d.cache.map (·.1)),bk m.A m.L.length m.c oq 2 (l7 m.L),l0 m.L]:=a;refine hE ?_;refine aI (J R (max n (-1))) (by(go_simp;try with_reducible rfl)) ?_;refine v4 ?_;refine a' a 0 (av #[J R (max n (-1)),J aH b]) (λw1 a=>?_);refine an ?_;replace a:ak _ _ _ (aL B m (sK d n b)::[]):=ak.vv hpl (a.pick (l':=[aj B #[J R (d.size:Int),ae (ab ⟨m.cG,0,af⟩) d.bytes.length d.bytes.length,J R (max n (-1)),J aH b,J R d.ep,J R d.eP,J R d.ix,J R d.hi,J R d.mo,ae m.A m.L.length m.c,dj (ab m.e3),ai d.down] 120,aj m.cG (aZ bb d.bytes []) 5,jQ m.e3 (d.cache.map (·.1)),bk m.A m.L.length m.c oq 2 (l7 m.L),l0 m.L]) [0,1,2,3,4]);go_wp2_with fail;first|go_end0|refine bodyPost_ret (results_none rfl _ _ _) rfl ?_
 exact⟨aa,a.fM 0⟩
def uL(d:dn):dn:={q6 d (λ_=>ao)with down:=ao,writes:=-1}
def am3 B m d w(o:Has w (aL B m d))(n:dv d):
 aD aw 14 #[c0 B] w λe w'=>e=aB (bm #[])/\∃g,Turned w w' (aL B m d) (aL B g (uL d)):=by
 obtain⟨a,i⟩:=ex (q6 d (λ_=>ao));have j:aE (uL d={a with down:=ao,writes:=-1}):=hid (by grind[uL]);have k:aE (∀W,Has W (aL B m d)->aD aw 63 #[c0 B,dC (ed 64) #[] #[]] W λe w'=>e=aB (bm #[])/\∃g,Turned W w' (aL B m d) (aL B g a)):=hid (λW h=>by have q:=RL B m d _ #[] (λ_=>ao) W h n (kW Tryz.func64 ay aa) (λq W _ _ _=>aq4 q W);rw[i]at q;exact q);clear i;go_enter func14,ntmps14;have f:=ak.start o;go_step;refine ah ?_;refine ag ?_;refine pk (ai az) ?_;refine b' ?_;refine aP (k.out _ (f.has 0)) ?_;rintro e w1 ⟨rfl,b,l⟩;replace f:=f.ek 0 l;refine Be ?_;replace f:=f.Ak;obtain⟨hpl,f⟩:=f;replace f:ak _ _ _ [aj B #[J R (a.size:Int),ae (ab ⟨b.cG,0,af⟩) a.bytes.length a.bytes.length,J R a.writes,J aH a.keep,J R a.ep,J R a.eP,J R a.ix,J R a.hi,J R a.mo,ae b.A b.L.length b.c,dj (ab b.e3),ai a.down] 120,aj b.cG (aZ bb a.bytes []) 5,jQ b.e3 (a.cache.map (·.1)),bk b.A b.L.length b.c oq 2 (l7 b.L),l0 b.L]:=f;refine jz ?_;refine a' f 0 (ai ao) (λp f=>?_);refine n3 ?_;refine a' f 0 (J R (-1)) (λr f=>?_);refine an ?_;replace f:ak _ _ _ (aL B b ({a with down:=ao,writes:=-1})::[]):=ak.vv hpl (f.pick (l':=[aj B #[J R (a.size:Int),ae (ab ⟨b.cG,0,af⟩) a.bytes.length a.bytes.length,J R (-1),J aH a.keep,J R a.ep,J R a.eP,J R a.ix,J R a.hi,J R a.mo,ae b.A b.L.length b.c,dj (ab b.e3),ai ao] 120,aj b.cG (aZ bb a.bytes []) 5,jQ b.e3 (a.cache.map (·.1)),bk b.A b.L.length b.c oq 2 (l7 b.L),l0 b.L]) [0,1,2,3,4]);go_wp2_with fail;first|go_end0|refine bodyPost_ret (results_none rfl _ _ _) rfl ?_
 exact⟨aa,b,by rw[j];exact f.fM 0⟩
def Fh(keep:Int)(q:Nat):Bool:=(aH.wrap ((nw 64 (keep.fdiv (2^(q%64)))&&& nw 64 1).toNat:Int)==1)
def aq3(f B)m d(q:Nat)w(k:q<=1073741824)(hx:aU w f #[ax (ab ⟨B,0,af⟩)] 32)(hb:aU w B (p1 m d) 120):
 aD aw 359 #[J R (q:Int),ax (ab ⟨f,0,af⟩)] w λe w'=>e=aB (ai (Fh d.keep q))/\ar w w':=by
 have g:q%64<=64:=ad;obtain⟨z,hz⟩:=ex (q%64);have c:Fh d.keep q=(aH.wrap ((nw 64 (d.keep.fdiv (2^z))&&& nw 64 1).toNat:Int)==1):=by rw[Fh,hz]
 obtain⟨j,b⟩:=ex ((aH.wrap ((nw 64 (d.keep.fdiv (2^z))&&& nw 64 1).toNat:Int)==1));rw[b]at c;rw[c];rw[hz]at g;have i:=hid hz;have h:=hid b;clear hz c b;go_enter Tryz.func359,ntmps359;have a:=bc w;go_step;refine ah ?_;refine en ?_;refine iL hx a.only ?_;refine v3 ?_;refine iL hb a.only ?_;refine ag ?_;refine aI _ (Rg 3 _ _ 3 aa q 64 z aa aa ad i ad) ?_;refine aI _ (BZ 42 _ _ 3 aa aH _ _ z aa aa g) ?_;refine pk (J aH (aH.wrap ((nw 64 (d.keep.fdiv (2^z))&&& nw 64 1).toNat:Int))) ?_;refine aI (ai j) (by(rw[<-h];show _=_;kernel_rfl)) ?_;refine bP ?_;go_wp2_with fail;go_ret;exact⟨aa,a.only⟩
def n2(d:dn)(n:Nat)(b:List Int):dn:={d with cache:=d.cache++[(n,b)],ep:=R.wrap (d.ep+1),hi:=max d.hi ((n:Int)+1),mo:=max d.mo ((d.cache.length+1:Nat):Int)}
def tm(d:dn)(n:Nat)(b:List Int):dn:={n2 d n b with writes:=d.writes -1}
def Ju(d:dn)(n:Nat)(b:List Int):dn:={q6 (tm d n b) (Fh d.keep)with down:=az,ix:=R.wrap (d.ix+1)}
def jr(d:dn)(i:Int)(b:List Int):Int×dn:=
 if jw d i≠0 then(jw d i,d)else if b.length≠d.size then(2,d)
 else if d.writes<0 then(0,n2 d i.toNat b)else if 0<=d.writes -1 then(0,tm d i.toNat b)else(18,Ju d i.toNat b)
theorem af5{d}(h:dv d){n}(hn:n<d.cnt){b}(hb:b.length=d.size)(a:d.cache.length<1073741824):dv (n2 d n b):=
 ⟨h.kz,h.sS,h.len,h.small,λx hx=>by
   rcases j3.1 hx with hx|hx;·exact h.cache x hx
   .obtain rfl:x=(n,b):=aF;exact⟨hn,hb⟩,by show(d.cache++[(n,b)]).length<=_;simp;omega,h.wr⟩
theorem UJ{d}(h:dv d){n}(hn:n<d.cnt){b}(hb:b.length=d.size)(c:d.cache.length<1073741824)(e:0<=d.writes):dv (tm d n b):=
 have h1:=af5 h hn hb c
 ⟨h1.kz,h1.sS,h1.len,h1.small,h1.cache,h1.dI,by have a:=h.wr;unfold c4 at a⊢;show _<=d.writes -1/\d.writes -1<=_;omega⟩
def UL{d}(h:dv d)i b(c:d.cache.length<1073741824):dv (jr d i b).2:=by
 unfold jr;split;·omega
 .rename_i hc;obtain⟨n,rfl,hn⟩:=RI (DA hc);split;·omega
  .rename_i hb;have hb:=DA hb;split;·grind[af5]
   .rename_i e;split;·grind[UJ]
    .have a:=M' (UJ h hn hb c ad) (Fh d.keep);exact⟨a.kz,a.sS,a.len,a.small,a.cache,a.dI,a.wr⟩
def auP{o}{a:bT}{w m x v}{b i n:Nat}{l}(ho:o.op=.mapUpdate 118 m x v)(q:a.eval m=dj (ab b))(hx:a.eval x=J R (i:Int))(hv:a.eval v=J R (n:Int))(hn:l.length=n)(h:(jQ b l).p w)(hi:i<=1073741824)(t:n<=1073741824):
 ∃w',(bt a.eval o).run aw w=a6 .skip w'/\Turned w w' (jQ b l) (jQ b (l++[i])):=by
 obtain⟨u,g,hle,s⟩:=h;subst hn;obtain⟨w',hrun,h1,d,r⟩:=g.update Mx sw (by grind[eh]) (x:=(i:Int)) ⟨ad,ad⟩ (J R (l.length:Int));have f:au (λj=>j=b) w w':=au.of_grownBy d (λk hk=>bM aF);refine⟨w',?_,f,⟨_,h1,?_,λj=>?_⟩,λj c=>⟨by have e:j=b:=c;rw[e];exact h1.lt,bM c⟩⟩;·unfold bt;simp only[ho,q,hx,hv];have e:(yM _)=J _ (i:Int):=rfl;rw[e]at hrun;simp[hrun]
 .grind[ka]
 .grind[MO,Mz]
def ak.ate{aq w FX l L A c bs}n(h:ak aq FX w (l0 L::cg A c bs::l)):ak aq FX w (l0 (L++[⟨n,A,c,bs⟩])::l):=
 h.star.as 0 aa (l0 (L++[⟨n,A,c,bs⟩])) (λh x hx=>by
  rcases j3.1 hx with hx|hx;·exact h.1 x hx
  .obtain rfl:x=⟨n,A,c,bs⟩:=aF;exact h.2.1) (λb ⟨x,hx,hb⟩=>by
  rcases j3.1 hx with hx|hx;·exact bM ⟨x,hx,hb⟩
  .obtain rfl:x=⟨n,A,c,bs⟩:=aF;exact b8 hb)
def am8 B m d i F dB b w(V:Has w (aL B m d))(H:dv d)(hf:d.cache.length<1073741824)(hb:bX w F b)(im:b.length<=140737488355328)(hne:∀x,eb F x->¬(aL B m d).cR x):
 aD aw 326 #[c0 B,J R i,ae F b.length dB] w λe w'=>e=aB (J R (jr d i b).1)/\∃X,Turned w w' (aL B m d) (aL B X (jr d i b).2):=by
 obtain⟨bq,G⟩:=ex (jw d i);have O:=hid (λW h=>by have q:=RH B m d i W h H;rw[G]at q;exact q);by_cases h0:bq=0
 .subst h0;obtain⟨n,rfl,hn⟩:=RI G;have M:=hid G;clear G;have fZ:=H.B5;have hf2:=H.dI;have hw0:=H.wr;obtain⟨S9,hw2⟩:=hw0;by_cases hbl:b.length=d.size
  .have C:=hid hbl;clear hbl;have b9:aE (∀W,au _ w W->bX W F b):=hid (λW g=>hb.only g (λx off e=>hne x ⟨_,_,e⟩));clear hb;obtain⟨ayw,EH⟩:=ex m.L.length;have gd:=hid EH;clear EH;go_enter VK,V6;have a:=ak.start V;go_step;refine ah ?_;refine bG a (ax _) (λo w1 a=>?_);refine ag ?_;refine an ?_;replace a:=a.front 1;replace a:=a.Ak;obtain⟨hpl,a⟩:=a;replace a:ak _ _ _ [aj B #[J R _,ae _ _ _,J R _,J aH _,J R d.ep,J R d.eP,J R d.ix,J R d.hi,J R d.mo,ae m.A _ m.c,dj _,ai _] 120,aj m.cG _ 5,jQ m.e3 _,bk m.A _ m.c oq 2 _,l0 m.L,aj o #[ax _] 32]:=a;go_step;refine ah ?_;refine pl a 5 0 ?_;refine ag ?_;refine aP (O _ (a.aX 0)) ?_;rintro e aW ⟨rfl,g⟩;replace a:=a.aG g;refine aQ ?_;refine ag ?_;refine an ?_;have gB:(d.cache.map (·.1)).length=m.L.length:=by rw[hpl,gV,nz.plain,gV]
   have aaO:d.cache.length=m.L.length:=by rw[hpl,nz.plain,gV]
   have jf:=hid gB;have yd:=hid aaO;have azi:m.L.length<1073741824:=ad;have je:=hid hpl;clear gB aaO hpl;go_step;refine ah ?_;refine ag ?_;refine pk (ai ao) ?_;refine an ?_;go_step;refine ah ?_;refine v2 ?_;refine pl a 5 0 ?_;refine v3 ?_;refine pl a 0 0 ?_;refine di C (ai ao) ?_;refine an ?_;go_step;refine cx ?_;refine bN a [10] (λ_ _=>a1) (λ_=>λ|10=>jQ m.e3 ((d.cache.map (·.1))++[n])|_=>emp) (λ|10=>[2]|_=>[]) (λ|0=>[5]|3=>[0]|5=>[5]|8=>[0]|_=>[]) (λ_=>[]) [0,1,3,4,5,16] (λf=>?_);refine dl 0 0 ?_;refine bF ?_;refine dl 0 10 ?_;refine aK ?_;refine dl 0 0 ?_;refine bF ?_;refine dl 0 9 ?_;refine aK ?_;refine Lm (λ_ _ a=>auP aa aa aa aa jf (a.at 0) ad ad) ?_;refine bU λbI a=>?_;go_step;refine cx ?_;refine bN a [7,9,10,13] (λi u=>match i with|7=>ae u.A b.length u.c|9=>ae (ab ⟨u.b,0,af⟩) 1 1|10=>ae u.A (m.L.length+1) u.c|_=>a1) (λf=>λ|7=>cg ((f 7).A) ((f 7).c) b|9=>aj ((f 9).b) #[J R (n:Int),ae (f 7).A b.length (f 7).c] 258|10=>bk ((f 10).A) (m.L.length+1) ((f 10).c) oq 2 (l7 m.L++([J R (n:Int),ae (f 7).A b.length (f 7).c]))|13=>aj B #[J R (d.size:Int),ae (ab ⟨m.cG,0,af⟩) d.bytes.length d.bytes.length,J R d.writes,J aH d.keep,J R d.ep,J R d.eP,J R d.ix,J R d.hi,J R d.mo,ae (f 10).A (m.L.length+1) (f 10).c,dj (ab m.e3),ai d.down] 120|_=>emp) (λ|10=>[2]|13=>[0]|_=>[]) (λ|0=>[4]|1=>[4]|4=>[0]|10=>[15]|_=>[]) (λ|7=>[7]|9=>[7,9]|10=>[7,10]|13=>[10]|_=>[]) [1,3,4,5,13,15,16,19] (λf=>?_);refine dl 0 0 ?_;refine dl 0 0 ?_;refine bF ?_;refine dl 0 9 ?_;refine bF ?_;refine du (λwl Fr a=>(wZ F dB b _ (b9 _ a.only) ad).mono ?_) ?_;·rintro e dA ⟨cb,c1,rfl,hrow,g⟩;exact⟨{A:=cb,c:=c1},aa,a.jE g (Row.nZ hrow)⟩
   refine aK ?_;refine lN #[J _ _,ae (f 7).A _ (f 7).c] _ ?_;refine ub (m:=1) 32 (λ_ _ a=>aU.cellsOf (m:=1) (a.aX 1) aa) (by intro u hu;simp only[gF,fQ,or_false]at hu;rcases hu with rfl|rfl<;>rfl) ?_;refine bF ?_;refine gi _ ?_;refine bU λcc a=>?_;generalize (f 7).A=Y at a⊢;generalize (f 7).c=Z at a⊢;generalize (f 9).b=OL at a⊢;generalize (f 10).A=s at a⊢;generalize (f 10).c=t at a⊢;replace a:=a.pk [1,4,7,0,3,6,2];replace a:=a.ate n;obtain⟨k,Q⟩:=ex (m.L++[⟨n,Y,Z,b⟩]);have bB:(l7 m.L++([J R (n:Int),ae Y b.length Z]))=l7 k:=by grind[alE]
   have bY:m.L.length+1=k.length:=aF;have e8:k.map (λx=>(x.sec,x.bs))=d.cache++[(n,b)]:=by rw[<-Q,gp,je];rfl
   rw[Q,bB,bY]at a;have azg:k.length<=1073741824:=ad;have N:=hid e8;have aaP:d.cache.length+1=k.length:=by rw[yd,bY]
   have P:=hid aaP;rw[bY];clear bB bY e8 Q aaP;go_step;refine ah ?_;refine pl a 5 0 ?_;refine v3 ?_;refine pl a 1 4 ?_;refine pk (J R (R.wrap (d.ep+1))) ?_;refine v3 ?_;refine a' a 1 (J _ _) (λcJ a=>?_);refine an ?_;go_step;refine cx ?_;refine bN a [12] (λ_ _=>a1) (λ_=>λ|12=>aj B #[J R (d.size:Int),ae (ab ⟨m.cG,0,af⟩) d.bytes.length d.bytes.length,J R d.writes,J aH d.keep,J R (R.wrap (d.ep+1)),J R d.eP,J R d.ix,J R (max d.hi ((n:Int)+1)),J R d.mo,ae s k.length t,dj (ab m.e3),ai d.down] 120|_=>emp) (λ|12=>[1]|_=>[]) (λ|0=>[5]|1=>[5]|5=>[1]|_=>[]) (λ_=>[]) [0,2,3,4,5,18] (λf=>?_);refine dl 0 0 ?_;refine dl 0 0 ?_;refine da ?_;refine dl 0 7 ?_;refine aK ?_;refine aN _ (λ_ _ _=>mZ 3 _ _ 3 aa _ 1 ((n:Int)+1) aa aa ad ad ad) ?_;refine aN _ (λ_ _ _=>by(go_simp;try with_reducible rfl)) ?_;refine da ?_;refine gi _ ?_;refine bU λc5 a=>?_;go_step;refine cx ?_;refine bN a [15] (λ_ _=>a1) (λ_=>λ|15=>aj B #[J R (d.size:Int),ae (ab ⟨m.cG,0,af⟩) d.bytes.length d.bytes.length,J R d.writes,J aH d.keep,J R (R.wrap (d.ep+1)),J R d.eP,J R d.ix,J R (max d.hi ((n:Int)+1)),J R (max d.mo (k.length:Int)),ae s k.length t,dj (ab m.e3),ai d.down] 120|_=>emp) (λ|15=>[5]|_=>[]) (λ|0=>[4]|1=>[4]|5=>[5]|6=>[4]|9=>[5]|_=>[]) (λ_=>[]) [0,1,2,3,4,21] (λf=>?_);refine dl 0 0 ?_;refine dl 0 0 ?_;refine da ?_;refine dl 0 8 ?_;refine dl 0 0 ?_;refine bF ?_;refine dl 0 9 ?_;refine aK ?_;refine aN _ (λ_ _ _=>by(go_simp;try with_reducible rfl)) ?_;refine da ?_;refine gi _ ?_;refine bU λdK a=>?_;by_cases T:d.writes<0
   .have l:aE (jr d n b=(0,n2 d n b)):=hid (by rw[jr,M,if_neg bf,if_neg (by rw[C];simp),if_pos T];rfl);go_step;refine ah ?_;refine pl a 4 0 ?_;refine v3 ?_;refine pl a 5 2 ?_;refine bu (ai az) ?_;refine an ?_;go_step;refine ah ?_;refine ag ?_;refine an ?_;have y:(d.cache.map (·.1))++[n]=(n2 d n b).cache.map (·.1):=by simp[n2]
    have v:max d.mo (k.length:Int)=max d.mo ((d.cache.length+1:Nat):Int):=by rw[P]
    rw[y,v]at a;clear y v;replace a:ak _ _ _ (aL B (⟨m.cG,m.e3,s,t,k⟩) (n2 d n b)::[aj o #[ax (ab ⟨B,0,af⟩)] 32]):=ak.vv (show(n2 d n b).cache=nz.plain ⟨m.cG,m.e3,s,t,k⟩from N.out.symm) (a.pick (l':=_) [5,1,2,3,0,4]);go_wp2_with fail;go_ret;exact⟨by rw[l];rfl,_,by rw[l.out];exact a.fM 0⟩
   .by_cases lU:0<=d.writes -1
    .have l:aE (jr d n b=(0,tm d n b)):=hid (by rw[jr,M,if_neg bf,if_neg (by rw[C];simp),if_neg T,if_pos lU];rfl);go_step;refine ah ?_;refine pl a 4 0 ?_;refine v3 ?_;refine pl a 5 2 ?_;refine bu (ai ao) ?_;refine an ?_;go_step;refine ah ?_;refine pl a 4 0 ?_;refine v3 ?_;refine pl a 5 2 ?_;refine lH _ 1 (d.writes -1) ?_;refine v3 ?_;refine a' a 5 (J _ _) (λdz a=>?_);refine an ?_;go_step;refine ah ?_;refine pl a 4 0 ?_;refine v3 ?_;refine pl a 5 2 ?_;refine bu (ai az) ?_;refine an ?_;go_step;refine ah ?_;refine ag ?_;refine an ?_;have y:(d.cache.map (·.1))++[n]=(tm d n b).cache.map (·.1):=by simp[tm,n2]
     have v:max d.mo (k.length:Int)=max d.mo ((d.cache.length+1:Nat):Int):=by rw[P]
     rw[y,v]at a;clear y v;replace a:ak _ _ _ (aL B (⟨m.cG,m.e3,s,t,k⟩) (tm d n b)::[aj o #[ax (ab ⟨B,0,af⟩)] 32]):=ak.vv (show(tm d n b).cache=nz.plain ⟨m.cG,m.e3,s,t,k⟩from N.out.symm) (a.pick (l':=_) [5,1,2,3,0,4]);go_wp2_with fail;go_ret;exact⟨by rw[l];rfl,_,by rw[l.out];exact a.fM 0⟩
    .have l:aE (jr d n b=(18,Ju d n b)):=hid (by rw[jr,M,if_neg bf,if_neg (by rw[C];simp),if_neg T,if_neg lU];rfl);have U:=UJ H hn C hf ad;go_step;refine ah ?_;refine pl a 4 0 ?_;refine v3 ?_;refine pl a 5 2 ?_;refine bu (ai ao) ?_;refine an ?_;go_step;refine ah ?_;refine pl a 4 0 ?_;refine v3 ?_;refine pl a 5 2 ?_;refine lH _ 1 (d.writes -1) ?_;refine v3 ?_;refine a' a 5 (J _ _) (λeY a=>?_);refine an ?_;go_step;refine ah ?_;refine pl a 4 0 ?_;refine v3 ?_;refine pl a 5 2 ?_;refine bu (ai ao) ?_;refine an ?_;have y:(d.cache.map (·.1))++[n]=(tm d n b).cache.map (·.1):=by simp[tm,n2]
     have v:max d.mo (k.length:Int)=max d.mo ((d.cache.length+1:Nat):Int):=by rw[P]
     rw[y,v]at a;clear y v;replace a:ak _ _ _ (aL B (⟨m.cG,m.e3,s,t,k⟩) (tm d n b)::[aj o #[ax (ab ⟨B,0,af⟩)] 32]):=ak.vv (show(tm d n b).cache=nz.plain ⟨m.cG,m.e3,s,t,k⟩from N.out.symm) (a.pick (l':=_) [5,1,2,3,0,4]);obtain⟨D,I⟩:=ex (tm d n b);obtain⟨p,S⟩:=ex (q6 D (Fh d.keep));have hk2:D.keep=d.keep:=by rw[<-I];rfl
     have j9:p.ix=d.ix:=by rw[<-S,<-I];rfl
     rw[I]at U;have aiZ:aE (Ju d n b={p with down:=az,ix:=R.wrap (p.ix+1)}):=hid (by grind[Ju])
     have bR:aE (∀W E K,Has W (aL B E D)->aU W K _ 32->¬(aL B E D).cR K->aD aw 63 #[c0 B,dC (ed 359) #[] _] W λe w'=>e=aB (bm #[])/\∃X,Turned W w' (aL B E D) (aL B X p)):=hid (λW E K h hx hM=>by
      have q:=RL B E D _ #[ax _] _ W h U (kW Tryz.func359 ay aa) (λq eE hq g hb2=>by have z:=aq3 K B E D q eE (by have h3:=U.dI;rw[h.plain,nz.plain,gV]at h3;omega) (au.heap g hx hM) hb2;rw[hk2]at z;exact z);rw[S]at q;exact q);rw[I]at a;clear I S j9;go_step;refine ah ?_;refine pl a 1 0 ?_;refine ag ?_;refine aP (bR.out _ _ o (a.has 0) (a.aX 1) (λh=>a.ne (i:=0) (j:=1) aa aa bf _ h aa)) ?_;rintro e gQ ⟨rfl,r,bL⟩;replace a:=a.ek 0 bL;refine aQ ?_;refine an ?_;replace a:=a.Ak;obtain⟨ap0,a⟩:=a;replace a:ak _ _ _ [aj B #[J R _,ae _ _ _,J R _,J aH _,J R p.ep,J R _,J R p.ix,J R p.hi,J R _,ae r.A _ r.c,dj _,ai _] 120,aj r.cG _ 5,jQ r.e3 _,bk r.A _ r.c oq 2 _,l0 r.L,aj o _ 32]:=a;go_step;refine ah ?_;refine pl a 5 0 ?_;refine v2 ?_;refine a' a 0 (ai _) (λib a=>?_);refine an ?_;go_step;refine ah ?_;refine pl a 5 0 ?_;refine v3 ?_;refine pl a 0 6 ?_;refine pk (J R (R.wrap (p.ix+1))) ?_;refine v3 ?_;refine a' a 0 (J _ _) (λjS a=>?_);refine an ?_;go_step;refine ah ?_;refine ag ?_;refine an ?_;replace a:ak _ _ _ (aL B r ({p with down:=az,ix:=R.wrap (p.ix+1)})::[aj o _ 32]):=ak.vv ap0 (a.pick (l':=_) [0,1,2,3,4,5]);go_wp2_with fail;go_ret;exact⟨by rw[l];rfl,r,by rw[l];show Turned _ _ _ (aL B r (Ju d n b));rw[aiZ];exact a.fM 0⟩
  .have C:=hid hbl;have l:aE (jr d n b=(2,d)):=hid (by rw[jr,M,if_neg bf,if_pos hbl]);clear hbl;go_enter VK,V6;have a:=ak.start V;go_step;refine ah ?_;refine bG a (ax _) (λo kh a=>?_);refine ag ?_;refine an ?_;replace a:=a.front 1;replace a:=a.Ak;obtain⟨hpl,a⟩:=a;replace a:ak _ _ _ [aj B #[J R _,ae _ _ _,J R _,J aH _,J R d.ep,J R d.eP,J R d.ix,J R d.hi,J R d.mo,ae m.A _ m.c,dj _,ai _] 120,aj m.cG _ 5,jQ m.e3 _,bk m.A _ m.c oq 2 _,l0 m.L,aj o #[ax _] 32]:=a;go_step;refine ah ?_;refine pl a 5 0 ?_;refine ag ?_;refine aP (O _ (a.aX 0)) ?_;rintro e lf ⟨rfl,g⟩;replace a:=a.aG g;refine aQ ?_;refine ag ?_;refine an ?_;go_step;refine ah ?_;refine ag ?_;refine pk (ai ao) ?_;refine an ?_;go_step;refine ah ?_;refine v2 ?_;refine pl a 5 0 ?_;refine v3 ?_;refine pl a 0 0 ?_;refine aI (ai az) (by(have h:=C.out;go_simp;first|omega|omega)) ?_;refine an ?_;go_step;refine ah ?_;refine ag ?_;refine an ?_;replace a:ak _ _ _ (aL B m d::[aj o _ 32]):=ak.vv hpl (a.pick (l':=_) [0,1,2,3,4,5]);go_wp2_with fail;go_ret;exact⟨by rw[l];rfl,m,by rw[l];exact a.fM 0⟩
 .have nd:=h0;have l:aE (jr d i b=(bq,d)):=hid (by grind[jr]);clear G;go_enter VK,V6;have a:=ak.start V;go_step;refine ah ?_;refine bG a (ax _) (λo mr a=>?_);refine ag ?_;refine an ?_;replace a:=a.front 1;replace a:=a.Ak;obtain⟨hpl,a⟩:=a;replace a:ak _ _ _ [aj B #[J R _,ae _ _ _,J R _,J aH _,J R d.ep,J R d.eP,J R d.ix,J R d.hi,J R d.mo,ae m.A _ m.c,dj _,ai _] 120,aj m.cG _ 5,jQ m.e3 _,bk m.A _ m.c oq 2 _,l0 m.L,aj o #[ax _] 32]:=a;go_step;refine ah ?_;refine pl a 5 0 ?_;refine ag ?_;refine aP (O _ (a.aX 0)) ?_;rintro e n1 ⟨rfl,g⟩;replace a:=a.aG g;refine aQ ?_;refine ag ?_;refine an ?_;go_step;refine ah ?_;refine ag ?_;refine aI (ai az) (by(go_simp;try simp[nd])) ?_;refine an ?_;go_step;refine ah ?_;refine v2 ?_;refine an ?_;replace a:ak _ _ _ (aL B m d::[aj o _ 32]):=ak.vv hpl (a.pick (l':=_) [0,1,2,3,4,5]);go_wp2_with fail;go_ret;exact⟨by rw[l];rfl,m,by rw[l];exact a.fM 0⟩
section
section
variable {P:ee} {o:cU} {a:bT} {w:aM}
def arG n:GG #[bb 0] n=aZ bb (eU n 0) []:=by
 apply Array.ext;·simp[GG,aZ]
 grind[GG,aZ]
def adI{t e:Nat}{x y}(n:Nat)(ho:o.op=.makeSlice t x y)(hx:a.eval x=J R (n:Int))(d:a.eval y=J R (n:Int))(c:P.underlying t=ab (iF e))(hi:(P.info? e).map (λi=>(i.zero,i.size,i.bytes))=ab (ab (bb 0),1,1))(hn:n<=1073741824):
 ∃B w',(bt a.eval o).run P w=a6 (c9 (ae (ab ⟨B,0,af⟩) n n)) w'/\cf w w' (aj B (aZ bb (eU n 0) []) e):=by
 cases hq:P.info? e with
 |none=>grind
 |some i=>
  rw[hq]at hi;simp only[pR,wR,o3]at hi;obtain⟨h1,b,f⟩:=hi;have h:=run_make (P:=P) w t e i (bb 0) c hq h1 R R (n:Int) (n:Int) ad (Int.le_refl _) aF ad;refine⟨_,_,?_,yz (au.alloc _ _) (fz w _) (b4 _)⟩;rw[b,Nat.mul_one]at h;have hc:(bb 0).cells=#[bb 0]:=rfl;rw[hc,Int.toNat_natCast,arG]at h;unfold bt;simp only[ho,hx,d,ga,h,jc,jK]
def asw{t:Nat}(ho:o.op=.makeMap t af):∃B w',(bt a.eval o).run P w=a6 (c9 (dj (ab B))) w'/\cf w w' (jQ B []):=by
 refine⟨w.heap.size,w.alloc (.map #[] 0),?_,au.alloc _ _,⟨[],dM.made w yM c4,b4 _,λ_=>rfl⟩,λb hb=>?_⟩;·grind[bt,ga,run_makeMap,jc,jK]
 .have e:b=w.heap.size:=hb;rw[e];simp
def auL {d n} {c j g B off f cap m c2 t:Nat} {aJ old new cs} (ho:o.op=nB {callee:=oR .copy,args:=#[d,n],argTypes:=#[c,j]}) (k:a.eval d=ae (ab ⟨B,off,af⟩) f cap) (l:a.eval n=ae aJ m c2) (h:aU w B old t) (hr:Cells w 1 aJ m cs) (r:m<=f)
 (lR:off+m<=old.size) (h1:∀v∈cs,v.oneCell'=az) (kP:(old.toList.take off++cs++old.toList.drop (off+cs.length)).toArray=new) (hu:P.underlying c=ab (iF g)) (hs:(P.info? g).map (·.size)=ab 1):
 ∃w',(bt a.eval o).run P w=a6 (c9 (J R (m:Int))) w'/\Turned w w' (aj B old t) (aj B new t):=by
 have hcs:cs.length=m:=by simpa using hr.1
 rcases lL m with i|i
 .subst i;obtain rfl:cs=[]:=j2 hcs;have e:new=old:=by rw[<-kP];simp
  subst e;have hc:=run_copy_none (P:=P) w c j o.type g (ab ⟨B,off,af⟩) aJ f cap 0 c2 hu hs (Nat.zero_min _);refine⟨w,?_,Turned.refl ⟨h,λb hb=>by have e:b=B:=hb;rw[e];exact aU.lt h⟩⟩;unfold bt;simp only[ho,nD,nC,qF,ga,jK,jc,oo,jM,kp,k,l,hc];rfl
 .obtain⟨p,rfl,q⟩:=hr.2 i;have hr:=Ke (P:=P) w c j o.type g B off f cap p m c2 old t cs hu hs h aF q ad h1;refine⟨w.setRow B (old.toList.take off++cs++old.toList.drop (off+m)).toArray,?_,vt (au.setRow w B _) ?_⟩;·unfold bt;simp only[ho,nD,nC,qF,ga,jK,jc,oo,jM,kp,k,l,hr,hcs];rfl
  .rw[<-kP,hcs];exact h.setRow _
end
def gv(bs:List Int)(off:Nat)(b:List Int):List Int:=bs.take off++b++bs.drop (off+b.length)
theorem xF{bs b off}(h:off+b.length<=bs.length):(gv bs off b).length=bs.length:=by grind[gv]
def aku{bs b off}:((aZ bb bs []).toList.take off++b.map bb++(aZ bb bs []).toList.drop (off+(b.map bb).length)).toArray=aZ bb (gv bs off b) []:=by simp[aZ,gv]
def hP(size cnt:Nat)(b:List Int):dn:={size:=size,cnt:=cnt,bytes:=gv (eU (size*cnt) 0) 0 b,writes:=-1,keep:=0,ep:=0,eP:=0,ix:=0,hi:=0,mo:=0,cache:=[],down:=ao}
def TI{size cnt b}(h1:1<=size)(a:1<=cnt)(c:size*cnt<=1048576)(hb:b.length<=size*cnt):dv (hP size cnt b):=
 ⟨h1,a,by show(gv _ 0 b).length=cnt*size;grind[xF],by show cnt*size<=_;rw[Ef];exact c,λx hx=>absurd hx fQ,cF _,by unfold c4;show _<=(-1:Int)/\(-1:Int)<=_;omega⟩
def am0(size cnt p:Nat)A c b w(h1:1<=size)(f:1<=cnt)(o:size*cnt<=1048576)(hbl:b.length<=size*cnt)(s:w.cell? ⟨p,0,af⟩=ab (ae A b.length c))(hb:bX w A b):
 aD aw 94 #[J R (size:Int),J R (cnt:Int),ae (ab ⟨p,0,af⟩) 1 1] w λe w'=>∃B m,e=aB (c0 B)/\cf w w' (aL B m (hP size cnt b)):=by
 have hz1:size<=size*cnt:=zW _ f;have hz2:cnt<=size*cnt:=Hj _ h1;obtain⟨q,d⟩:=ex (1048576/cnt);have H:size<=q:=by rw[<-d];exact(akj f).2 o
 have G:q<=1048576:=by rw[<-d];exact yt _ _
 obtain⟨N,i⟩:=ex (size*cnt);have r:(size:Int)*(cnt:Int)=(N:Int):=ad;have E:=hid i;have z:=hid d;rw[i]at o hbl hz1 hz2;clear d i;have y:aE (∀W,ar w W->aD aw 93 #[ae (ab ⟨p,0,af⟩) 1 1] W λe w'=>∃j n,e=aB (ae j b.length n)/\w'.ownsRow W.heap.size 5 1 (ae j b.length n) b.length (b.map bb)/\ar W w'):=hid (λW g=>Hw p A c b W (g.cell s (λh=>h)) (hb.aG g) ad);clear s hb;go_enter func94,ntmps94;have a:=bc w;go_step;refine ah ?_;refine cK ?_;refine aP (y.out _ a.only) ?_;rintro e w1 ⟨D,F,rfl,hrow,g⟩;replace a:=a.jE g (Row.nZ hrow);refine aQ ?_;refine mO ?_;refine aI (J R (fW (size:Int) (cnt:Int))) (by(go_simp;try with_reducible rfl)) ?_;refine bu (ai ao) ?_;refine v3 ?_;refine aI _ (Ac 3 _ _ 3 aa _ cnt q aa aa f z ad) ?_;refine bu (ai ao) ?_;refine pk (ai ao) ?_;refine v5 ?_;refine aI _ (nM 3 _ _ 3 aa _ _ _ aa aa r ad ad) ?_;refine bu (ai ao) ?_;refine pk (ai ao) ?_;refine jz ?_;refine aI (J R (N:Int)) (nM 3 (bj 30) (bj 31) 3 aa ((size:Int)) ((cnt:Int)) (N:Int) aa aa r ad ad) ?_;refine I3 a (adI N aa aa aa dL ay ad) (λk I a=>?_);refine v2 ?_;refine I3 a (asw aa) (λl K a=>?_);refine ag ?_;refine bG a (av #[J R (size:Int),ae (ab ⟨k,0,af⟩) N N,J R (-1),J aH 0,J R 0,J R 0,J R 0,J R 0,J R 0,ae af 0 0,dj (ab l),ai ao]) (λt L a=>?_);refine xU ?_;refine pl a 0 1 ?_;refine ag ?_;refine C3 a 2 (auL aa aa aa (a.aX 2) (a.kK 3).1.cells ad (by grind[kr]) (xE _) (show _=aZ bb (gv (eU N 0) 0 b) []from aku) dL ay) (λC a=>?_);refine ah ?_;refine dZ ?_;replace a:=(a.new (l0 []) ⟨au.refl _ _,λx hx=>absurd hx fQ,λb ⟨x,hx,_⟩=>absurd hx fQ⟩).new (bk af 0 0 oq 2 []) ⟨au.refl _ _,Row.nil _ _ _ _,λb ⟨_,_,e⟩=>aF⟩;have hlen:(gv (eU N 0) 0 b).length=N:=by grind[xF]
 have u:=a.pk [2,4,3,0,1];have e:hP size cnt b={size:=size,cnt:=cnt,bytes:=gv (eU N 0) 0 b,writes:=-1,keep:=0,ep:=0,eP:=0,ix:=0,hi:=0,mo:=0,cache:=[],down:=ao}:=by grind[hP]
 have v:ak w (λ_=>False) C [aL t ⟨k,l,af,0,[]⟩ (hP size cnt b)]:=by rw[e];refine ak.vv aa ?_;show ak _ _ _ (aj _ #[_,ae _ (gv (eU N 0) 0 b).length (gv (eU N 0) 0 b).length,_,_,_,_,_,_,_,_,_,_] _::_);rw[hlen];exact u
 go_wp2_with fail;go_ret;exact⟨_,_,aa,v.fresh 0⟩
end
def oL(s:Nat):Nat->Nat->Nat->List (Int×Int)
 |0,_,_=>[]
 |f+1,o,n=>if n=0 then[]else((o:Int),((fW s n:Nat):Int))::oL s f (o+fW s n) (n -fW s n)
def hB(s o n:Nat):List (Int×Int):=oL s n o n
theorem T0 s(a:0<s):∀f o n,n<=f->(oL s f o n).length<=(n+s -1)/s
 |0,o,n,h=>cF _
 |f+1,o,n,h=>by
  unfold oL;split;·simp
  .rename_i b;have c:=T0 s a f (o+fW s n) (n -fW s n) ad;rw[js]
   have h1:(n+s -1)/s=(n -fW s n+s -1)/s+1:=by
    by_cases hn:n<=s;·rw[Nat.min_eq_right hn,Nat.sub_self,show 0+s -1=s -1 by omega,X1 (by omega:s -1<s),show n+s -1=(n -1)+s by omega,X0 _ a,X1 ad]
    .rw[Nat.min_eq_left ad,show n+s -1=(n -s+s -1)+s by omega,X0 _ a]
   omega
def ato(o n s:Nat)w:
 aD aw 324 #[gI ((o:Int),(n:Int)),J R (s:Int)] w λe w'=>∃b b1,e=aB (dC (ed 358) #[] #[ax (ab ⟨b,0,af⟩),ax (ab ⟨b1,0,af⟩)])/\cf w w' (both (aj b #[J R (o:Int),J R (n:Int)] 35) (aj b1 #[J R (s:Int)] 3)):=by
 go_enter func324,ntmps324;have a:=bc w;go_step;refine ah ?_;refine bG a (av #[J _ (o:Int),J _ (n:Int)]) (λc w1 a=>?_);refine bG a (J _ _) (λd f a=>?_);refine ag ?_;refine ah ?_;refine dZ ?_;go_wp2_with fail;go_ret;exact⟨_,_,aa,((a.pick (l':=[aj _ _ 35,aj _ _ 3]) [1,0]).star).fresh 0⟩
def IJ(b:Nat)(w:aM):Nat:=match w.cell? ⟨b,1,af⟩with|some v=>(cy v).toNat|none=>0
def ac4{b w v}{n:Nat}{t}(h:aU w b #[v,J R (n:Int)] t):IJ b w=n:=by unfold IJ;rw[aU.cell h 1 aa];simp[cy]
theorem atn(o n s:Nat)(H:0<s/\(s:Int)<=4611686018427387903)(hn:((o+n:Nat):Int)<=4611686018427387903)(g b1)aq FX:
 wT aw 358 #[ax (ab ⟨g,0,af⟩),ax (ab ⟨b1,0,af⟩)] (λe:Int×Int=>#[gI e]) aq FX (both (aj g #[J R (o:Int),J R (n:Int)] 35) (aj b1 #[J R (s:Int)] 3)) (λ_=>True) (hB s o n):=by
 intro l S M W F t r u a;go_enter Tryz.func358,ntmps358;replace a:=a.fi;obtain⟨xs,j⟩:=ex (hB s o n);rw[j]at r⊢;have hs1:=H;have P:=hn;go_wp2_with fail;go_loopw [] (λwr=>∃(i c d:Nat) (pre:List (Int×Int)) (t:bp),pre++oL s d i c=xs/\c<=d/\i+c=o+n/\S pre t/\ak aq FX wr [aj g #[J R (i:Int),J R (c:Int)] 35,aj b1 #[J R (s:Int)] 3,t,F]) (λwr=>IJ g wr);case atStart=>exact⟨o,n,n,[],t,j,b4 _,aa,u,a⟩
 case round=>
  clear a j u;obtain⟨i,c,d,pre,t,j,N,Q,v,a⟩:=hrel;have E:=a.aX 0;by_cases hlt:0<c
  .have D:(0:Int)<(c:Int):=ad;obtain⟨m,w⟩:=ex (fW s c);have O:0<m/\m<=c:=ad;have x:fW (s:Int) (c:Int)=(m:Int):=ad;obtain⟨d,rfl⟩:∃f,d=f+1:=⟨d -1,ad⟩;have p:(pre++[((i:Int),(m:Int))])++oL s d (i+m) (c -m)=xs:=by grind[oL]
   have y:pre++[((i:Int),(m:Int))]<+:xs:=⟨_,p⟩;have A:=hid x;have B:=hid p;have K:=hid w;have L:=hid j;clear w x j p;go_step;refine ah ?_;refine ag ?_;refine pl a 0 1 ?_;refine en ?_;refine pl a 1 0 ?_;refine ag ?_;refine pl a 0 1 ?_;refine di A (J R (m:Int)) ?_;refine iB ?_;refine Jt 5 ?_;refine v2 ?_;refine pl a 0 0 ?_;refine dZ ?_;have q:=(a.pick (l':=[t,aj g _ 35,aj b1 _ 3,F]) [2,0,1,3]).Ep;refine Gf (r _ _ _ _ _ y v q) (λb w1 hb=>?_) (λ_ _ C=>C.elim (λh=>⟨_,h.1⟩) (λh=>⟨_,h.1⟩)) (EC aa aa (by simp only[oo,jM,kp];rfl));clear q a;rcases F8 hb with⟨rfl,z,k,a⟩|⟨rfl,z,k,a⟩
   .clear hb;replace a:=a.uR;refine s8 ?_;refine cK ?_;refine pl a 1 0 ?_;refine ag ?_;refine pad _ _ ((i+m:Nat):Int) ?_;refine ag ?_;refine a' a 1 (J _ _) (λT a=>?_);refine b' ?_;refine pl a 1 1 ?_;refine ag ?_;refine lH _ _ ((c -m:Nat):Int) ?_;refine ag ?_;refine a' a 1 (J _ _) (λU a=>?_);refine an ?_;have G:=a.aX 1;go_wp2_with fail;go_roundw;case rel=>exact⟨_,_,d,_,_,B,ad,ad,k,a.pick [1,2,0,3]⟩
    case measure=>(show IJ _ _<IJ _ _;rw[ac4 G,ac4 E];omega)
   .clear hb;replace a:=a.uR;refine s8 ?_;refine bP ?_;go_wp2_with fail;first|go_end0|refine bodyPost_ret (results_none rfl _ _ _) rfl ?_
    exact sI.cut y k ((ak.bK (l:=[aj g _ 35,aj b1 _ 3]) (a.pick (l':=[aj g _ 35,aj b1 _ 3,z,F]) [1,2,0,3])).pick [1,0,2])
  .have D:¬(0:Int)<(c:Int):=ad;obtain rfl:c=0:=ad;have I:pre=xs:=by rw[<-j];cases d<;>simp[oL]
   subst I;go_step;refine ah ?_;refine ag ?_;refine pl a 0 1 ?_;refine bP ?_;go_wp2_with fail;first|go_end0|refine bodyPost_ret (results_none rfl _ _ _) rfl ?_
   exact sI.all v trivial ((ak.bK (l:=[aj g _ 35,aj b1 _ 3]) a).pick [1,0,2])
def o7(l:List (Int×Int)):List Value:=l.flatMap (λe=>[J R e.1,J R e.2])
theorem ZI l e:o7 (l++[e])=o7 l++[J R e.1,J R e.2]:=by simp[o7]
def avA(o n s:Nat)(y:0<s/\(s:Int)<=4611686018427387903)(hn:((o+n:Nat):Int)<=4611686018427387903)(U:(n+s -1)/s<=1048576)w:
 aD aw 289 #[gI ((o:Int),(n:Int)),J R (s:Int)] w λe w'=>∃A c,e=aB (ae A (hB s o n).length c)/\Row w.heap.size w' A (hB s o n).length c 35 2 (o7 (hB s o n))/\ar w w':=by
 obtain⟨xs,q⟩:=ex (hB s o n);have z:xs.length<=1048576:=by grind[T0,hB]
 have K:=hid q;have I:=hid z;have H:∀d b1,wT aw 358 #[ax (ab ⟨d,0,af⟩),ax (ab ⟨b1,0,af⟩)] (λe:Int×Int=>#[gI e]) w (λ_=>False) (both (aj d #[J R (o:Int),J R (n:Int)] 35) (aj b1 #[J R (s:Int)] 3)) (λ_=>True) xs:=λd b1=>by grind[atn]
 obtain⟨B,k⟩:=ex ((n -1)/s);have r:=hid k;have V:B<=n:=by rw[<-k];exact ea (yt _ _) (Hk _ _)
 clear k;rw[q];clear q z;refine Ag func289 aa ?_;simp only[ntmps289,List.size_toArray,js,List.length_nil,Array.replicate_succ,Array.replicate_zero,List.push_toArray,List.append_toArray,List.nil_append,List.cons_append];have a:=bc w;go_step;refine ah ?_;refine bG a (av #[J _ (o:Int),J _ (n:Int)]) (λC w1 a=>?_);refine ag ?_;refine an ?_;by_cases L:n=0
 .subst L;have hx0:xs=[]:=by rw[<-K];rfl
  subst hx0;go_step;refine ah ?_;refine ag ?_;refine bu (ai ao) ?_;refine v2 ?_;refine pl a 0 1 ?_;refine v3 ?_;iterate 6 refine ps ?_
  refine ag ?_;refine an ?_;go_step;refine ah ?_;refine ag ?_;refine an ?_;go_wp2_with fail;exact arK (Kd aa _ _ _) ⟨_,0,aa,Row.nil _ _ _ _,a.only⟩
 .have T:¬(n:Int)=0:=ad;have G:aE (¬(1048576:Int)<=(B:Int)):=hid (by have h1:(n+s -1)/s=(n -1)/s+1:=(by rw[show n+s -1=(n -1)+s by omega,X0 _ y.1]);have M:=r.out;omega);go_step;refine ah ?_;refine ag ?_;refine bu (ai ao) ?_;refine v2 ?_;refine pl a 0 1 ?_;refine bu (ai ao) ?_;refine v3 ?_;refine pl a 0 1 ?_;refine lH _ 1 ((n -1:Nat):Int) ?_;refine ag ?_;refine aI _ (Ac _ _ _ _ aa _ s _ aa aa y.1 r ad) ?_;refine aI (ai ao) (by(have h:=G.out;go_simp;try simp[h];try omega)) ?_;refine ag ?_;refine an ?_;go_step;refine ah ?_;refine bA a #[ae _ 0 0] (λg X a=>?_);refine an ?_;go_step;refine ah ?_;refine bh a 1 #[J R (o:Int),J R (n:Int)] ?_;refine ag ?_;refine aP (ato o n s _) ?_;rintro e Y ⟨d,b1,rfl,N⟩;replace a:=a.new _ N;refine aQ ?_;refine an ?_;replace a:=a.new (bk _ 0 0 35 2 []) ⟨au.refl _ _,Row.nil _ _ _ _,λb ⟨_,_,e⟩=>aF⟩;go_wp2_with fail;have v:ak _ _ _ [both _ _,bK [aj g _ 176,bk af 0 0 35 2 []],bK [aj C #[J R _,J R _] 35]]:=ak.B2 (a.pick [1,2,0,3]);refine Gd (encs:=(λe:Int×Int=>#[gI e])) aa (kW Tryz.func358 aY aa) (λ_=>aa) (H d b1) (λpre t=>∃A c,t=bK [aj g #[ae A pre.length c] 176,bk A pre.length c 35 2 (o7 pre)]) (λ_ _ _=>False) (⟨af,0,aa⟩) v ?_ ?_ ?_;all_goals clear v a
  .rintro l rd pre x W t F O P ⟨A,c,rfl⟩ a;replace a:=a.kg;repeat((fail_if_success (with_reducible refine at_region ?_));gi_step)
   refine jG ?_;refine bA a #[J _ 0,J _ 0] (λS Z a=>?_);refine a' a 0 (av _) (λcJ a=>?_);refine an ?_;first|refine wpIn_skip ?_|skip
   simp only[Exit.then];refine Ab a 3 P (λc5 a=>?_);replace a:ak _ _ _ [aj _ _ 35,aj _ _ _,bk A _ c 35 2 _,obj l _,F]:=a;have hpl:=O.length_le;rw[c',List.length_singleton]at hpl;have E:=hid hpl;clear hpl;repeat((fail_if_success (with_reducible refine at_region ?_));gi_step)
   refine jG ?_;refine pl a 1 0 ?_;refine bh a 0 #[J R x.1,J R x.2] ?_;refine fC a #[J R x.1,J R x.2] 35 (λQ dK a=>?_);refine lZ (m:=1) a 3 16 (aU.cellsOf (m:=1) (a.aX 0) aa) (by intro u p;simp only[gF,fQ,or_false]at p;rcases p with rfl|rfl<;>rfl) (λf j dz a=>?_) (hby:=by have h1:=E.out;have M:=I.out;omega);refine a' a 2 (ae _ _ _) (λeY a=>?_);refine an ?_;repeat gi_step
   have i:=a.pk [2,3,4,5];replace i:ak _ _ _ [bK [aj g #[ae f (pre.length+1) j] 176,bk f (pre.length+1) j 35 2 (o7 pre++([J R x.1,J R x.2]))],obj l (.loop {rd with state:=.busy}),F]:=i.fv 2;refine⟨_,?_,i⟩;exact⟨f,j,by grind[ZI]⟩
  .rintro D t u W ⟨A,c,rfl⟩ p a;replace a:=a.kg;replace a:=(a.pk [4,0,1,2,3]).kg;go_step;refine ah ?_;refine pl a 1 0 ?_;refine ag ?_;refine an ?_;go_wp2_with fail;refine xw a 4 (λw' a=>⟨Kd aa _ _ _,?_⟩);replace a:ak _ _ _ [aj _ _ 35,aj _ _ _,bk A _ c 35 2 _,u,obj D _]:=a;exact⟨A,c,aa,(a.fresh 2).row,a.only⟩
  .simp
def dY(s o n:Nat):Nat×Nat:=if n=0 then(0,0)else(o/s,(o+n -1)/s -o/s+1)
def lG(s o n i:Nat):Nat×Nat×Nat:=(i,max o (i*s),fW (o+n) (i*s+s) -max o (i*s))
def mm(s o n:Nat):List (Nat×Nat×Nat):=(dG (dY s o n).2).map (λj=>lG s o n ((dY s o n).1+j))
def aef{s o n i}(c:1<=s)(h1:(dY s o n).1<=i)(a:i<(dY s o n).1+(dY s o n).2):i*s<=(lG s o n i).2.1/\o<=(lG s o n i).2.1/\0<(lG s o n i).2.2/\(lG s o n i).2.1+(lG s o n i).2.2<=o+n/\(lG s o n i).2.1+(lG s o n i).2.2<=i*s+s:=by
 unfold dY at h1 a;by_cases b:n=0;·grind
 .rw[if_neg b]at h1 a;simp only at h1 a;have d:=by have:=Nat.lt_succ_of_le h1;have:=(Nat.div_lt_iff_lt_mul c).1 this;rw[tT]at this;exact this
  have e:i<=(o+n -1)/s:=by have:o/s<=(o+n -1)/s:=QW ad;omega
  grind[akj,lG]
def atC{s o n}(b:1<=s){x}(hx:x∈mm s o n):x=lG s o n x.1/\(dY s o n).1<=x.1/\x.1<(dY s o n).1+(dY s o n).2:=by obtain⟨j,a,rfl⟩:=fL.1 hx;rw[List.mem_range]at a;exact⟨aa,by show _<=(dY s o n).1+j;omega,by show(dY s o n).1+j<_;omega⟩
def aec{a:Type}{pre xs}{x:a}(h:pre++[x]<+:xs):x∈xs:=h.subset (List.mem_append_right _ (wO.2 aa))
def aeZ(s o n:Nat)(f:1<=s/\s<=1125899906842624)(hn:o+n<=1125899906842624)w:
 aD aw 116 #[J R (s:Int),gI ((o:Int),(n:Int))] w λe w'=>e=aB (gI (((dY s o n).1:Int),((dY s o n).2:Int)))/\ar w w':=by
 by_cases l:n=0;·subst l;have e:dY s o 0=(0,0):=rfl;rw[e];go_enter Tryz.func116,Tryz.ntmps116;have c:=bc w;go_step;refine ah ?_;refine bG c (av #[J _ (o:Int),J _ ((0:Nat):Int)]) (λg w1 c=>?_);refine bA c #[J _ 0,J _ 0] (λh q c=>?_);refine b' ?_;refine bu (ai ao) ?_;refine ag ?_;refine bh c 1 #[J R (o:Int),J R ((0:Nat):Int)] ?_;refine bH (xP (o:Int) ((0:Nat):Int) _ ⟨ad,ad,ad⟩) c (λr c=>?_);refine v4 ?_;refine pl c 1 1 ?_;refine pk (ai az) ?_;refine cK ?_;refine a' c 0 (av #[J R 0,J R 0]) (λt c=>?_);refine an ?_;go_wp2_with fail;refine dp (v:=_) (jd aa _ _ _ _ _ _ _ aa (c.aX 0) Bu aa ay) aa (⟨aa,c.only⟩)
 .obtain⟨a,d⟩:=ex (o/s);obtain⟨b,hb⟩:=ex ((o+n -1)/s);have hab:a<=b:=by rw[<-d,<-hb];exact QW ad
  have m:b<=o+n:=by rw[<-hb];exact ea (yt _ _) (Hk _ _)
  have e:dY s o n=(a,b -a+1):=by grind[dY]
  rw[e];have j:=hid d;have k:=hid hb;clear d hb e;go_enter Tryz.func116,Tryz.ntmps116;have c:=bc w;go_step;refine ah ?_;refine bG c (av #[J _ (o:Int),J _ (n:Int)]) (λg u c=>?_);refine bA c #[J _ 0,J _ 0] (λh x c=>?_);refine b' ?_;refine bu (ai ao) ?_;refine ag ?_;refine bh c 1 #[J R (o:Int),J R (n:Int)] ?_;refine bH (xP (o:Int) (n:Int) _ ⟨ad,ad,ad⟩) c (λy c=>?_);refine v4 ?_;refine pl c 1 1 ?_;refine bu (ai ao) ?_;refine iB ?_;refine bN c [5] (λi _=>match i with|5=>J R ((o:Int)+(n:Int))|_=>a1) (λ_ _=>emp) (λ_=>[]) (λ|1=>[1]|4=>[1]|_=>[]) (λ_=>[]) [0,1,7] (λp=>?_);refine aK ?_;refine dl 0 0 ?_;refine aK ?_;refine aN _ (λ_ _ _=>Ac _ _ _ _ aa o s a aa aa f.1 j ad) ?_;refine eI 0 #[J R (o:Int),J R (n:Int)] ?_;refine dD (λ_ _ _=>lO (o:Int) (n:Int) _ ad ad ad) ?_;refine aN _ (λ_ _ _=>qQ 3 _ _ 3 aa _ 1 ((o+n -1:Nat):Int) aa aa ad ad ad) ?_;refine aK ?_;refine aN _ (λ_ _ _=>Ac _ _ _ _ aa _ s b aa aa f.1 k ad) ?_;refine bF ?_;refine bU λz c=>?_;replace c:=c.drop 2;refine jz ?_;refine lH (b:Int) (a:Int) ((b -a:Nat):Int) ?_;refine pad _ 1 ((b -a+1:Nat):Int) ?_;refine ag ?_;refine a' c 0 (av #[J R _,J _ ((b -a+1:Nat):Int)]) (λA c=>?_);refine an ?_;go_wp2_with fail;refine dp (v:=_) (jd aa _ _ _ _ _ _ _ aa (c.aX 0) Bu aa ay) aa (⟨aa,c.only⟩)
def ZK B m d(o n)w(hb:aU w B (p1 m d) 120)(b:dv d)(hn:o+n<=d.bytes.length):
 aD aw 207 #[c0 B,gI ((o:Int),(n:Int))] w λe w'=>e=aB (J R 0)/\ar w w':=by
 have c:=b.len;have hsm:=b.small;obtain⟨q,f⟩:=ex (d.cnt*d.size);have hc1:=b.B5;have g:(d.size:Int)*(d.cnt:Int)=(q:Int):=by rw[<-f,Ef,Int.natCast_mul]
 rw[f]at c hsm;rw[c]at hn;clear f c;go_enter func207,ntmps207;have a:=bc w;go_step;refine ah ?_;refine bG a (av #[J _ (o:Int),J _ (n:Int)]) (λh w1 a=>?_);refine cK ?_;refine pk (ai ao) ?_;refine en ?_;refine bh a 0 #[J R (o:Int),J R (n:Int)] ?_;refine bH (xP (o:Int) (n:Int) _ ⟨ad,ad,ad⟩) a (λi a=>?_);refine v2 ?_;refine bh a 0 #[J R (o:Int),J R (n:Int)] ?_;refine bH (lO (o:Int) (n:Int) _ ad ad ad) a (λj a=>?_);refine ag ?_;refine bH (w4 B m d _ (aU.aG hb a.only) b) a (λk a=>?_);refine ag ?_;refine bH (Lp B m d _ (aU.aG hb a.only) b) a (λl a=>?_);refine aI _ (nM 3 _ _ 3 aa _ _ _ aa aa g ad ad) ?_;refine bu (ai ao) ?_;refine v2 ?_;refine ah ?_;refine ag ?_;refine an ?_;go_wp2_with fail;go_ret;exact⟨aa,a.only⟩
def adX(s o n:Nat)w:
 aD aw 208 #[J R (s:Int),gI ((o:Int),(n:Int))] w λe w'=>∃b1 b,e=aB (dC (ed 280) #[] #[ax (ab ⟨b1,0,af⟩),ax (ab ⟨b,0,af⟩)])/\cf w w' (both (aj b1 #[J R (s:Int)] 3) (aj b #[J R (o:Int),J R (n:Int)] 35)):=by
 go_enter func208,ntmps208;have a:=bc w;go_step;refine ah ?_;refine bG a (J _ _) (λc w1 a=>?_);refine bG a (av #[J _ (o:Int),J _ (n:Int)]) (λd f a=>?_);refine ag ?_;refine ah ?_;refine dZ ?_;go_wp2_with fail;go_ret;exact⟨_,_,aa,((a.pick (l':=[aj _ _ 3,aj _ _ 35]) [1,0]).star).fresh 0⟩
theorem adW(s o n:Nat)(w:1<=s/\s<=1125899906842624)(hn:o+n<=1125899906842624)(b1 f)aq FX:
 wT aw 280 #[ax (ab ⟨b1,0,af⟩),ax (ab ⟨f,0,af⟩)] (λx:Nat×Nat×Nat=>#[J R (x.1:Int),gI ((x.2.1:Int),(x.2.2:Int))]) aq FX (both (aj b1 #[J R (s:Int)] 3) (aj f #[J R (o:Int),J R (n:Int)] 35)) (λ_=>True) (mm s o n):=by
 intro l S gH W F t D E a;obtain⟨xs,Q⟩:∃xs,mm s o n=xs:=⟨_,aa⟩;rw[Q]at D⊢;obtain⟨c,H⟩:∃x,(dY s o n).1=x:=⟨_,aa⟩;obtain⟨d,G⟩:∃x,(dY s o n).2=x:=⟨_,aa⟩;have P:xs.length=d:=by grind[mm]
 have O:∀j,j<d->xs[j]?=ab (lG s o n (c+j)):=λj I=>by grind[mm]
 have u:∀j,j<d->(c+j)*s<=(lG s o n _).2.1/\o<=(lG s o n _).2.1/\0<(lG s o n _).2.2/\(lG s o n _).2.1+(lG s o n _).2.2<=o+n/\(lG s o n _).2.1+(lG s o n _).2.2<=(c+j)*s+s:=λj I=>aef w.1 ad ad
 have jx:c+d<=1125899906842625:=by
  rcases lL d with h|h;·grind[dY]
  .have h1:=u (d -1) ad;have h2:c+(d -1)<=(c+(d -1))*s:=zW _ w.1;omega
 have Y:aE (∀W,aD _ _ #[J _ _,av #[J _ (o:Int),J _ (n:Int)]] W λe w'=>e=aB (av #[J _ (c:Int),J _ (d:Int)])/\ar W w'):=hid (λW=>by have h:=aeZ s o n w hn W;rw[H,G]at h;exact h);have wI:=hid P;have Z:=hid O;have X:=hid u;clear Q H G P O u;go_enter Tryz.func280,ntmps280;replace a:=a.fi;go_step;refine ah ?_;refine pl a 0 0 ?_;refine bh a 1 #[J R (o:Int),J R (n:Int)] ?_;refine aP (Y _) ?_;rintro e w1 ⟨rfl,g⟩;replace a:=a.aG g;refine aQ ?_;refine bA a #[J _ 0,J _ 0] (λA aW a=>?_);refine a' a 0 (av _) (λbI a=>?_);refine an ?_;go_step;refine ah ?_;refine ag ?_;refine pl a 0 0 ?_;refine ag ?_;refine an ?_;replace a:=a.pick (l':=[aj b1 _ 3,aj f _ 35,aj _ _ 35,t,F]) [1,2,0,3,4];go_wp2_with fail;go_loopw [5] (λz wr=>∃(j:Nat) (t:bp),j<=d/\z=J R ((c+j:Nat):Int)/\S (xs.take j) t/\ak aq FX wr [aj b1 #[J R (s:Int)] 3,aj f #[J R (o:Int),J R (n:Int)] 35,aj A #[J R (c:Int),J R (d:Int)] 35,t,F]) (λz wr=>c+d -(cy z).toNat);case atStart=>exact⟨0,t,cF _,aa,E,a⟩
 case round=>
  clear a E;obtain⟨j,t,I,rfl,p,a⟩:=hrel;by_cases hlt:j<d
  .have hx:=Z j hlt;have M:=X j hlt;have y:xs.take (j+1)=xs.take j++[lG s o n (c+j)]:=by grind[gg]
   have v:xs.take j++[lG s o n (c+j)]<+:xs:=aF;obtain⟨bu,k⟩:∃x,(lG s o n (c+j)).2.1=x:=⟨_,aa⟩;obtain⟨i,hpl⟩:∃x,(lG s o n (c+j)).2.2=x:=⟨_,aa⟩;have N:lG s o n (c+j)=(c+j,bu,i):=by rw[<-k,<-hpl];rfl
   rw[k,hpl]at M;obtain⟨m,r⟩:∃x,(c+j)*s=x:=⟨_,aa⟩
   have L:kR ((o:Int),(n:Int)) ((m:Int),(s:Int))=((bu:Int),(i:Int)):=by have bB:max o _=bu:=k;have e8:fW _ _ -max o _=i:=hpl;rw[r]at bB e8;unfold kR;simp only;rw[if_pos ad];rw[o3];exact⟨ad,ad⟩
   rw[r]at M;have qb:((c+j:Nat):Int)*(s:Int)=(m:Int):=ad;obtain⟨xx,K⟩:∃b,meets ((o:Int),(n:Int)) ((m:Int),(s:Int))=b:=⟨_,aa⟩;have V:aE (∀W,aD aw 202 _ W λe w'=>e=aB (bm #[av #[J R (bu:Int),J R (i:Int)],ai xx])/\ar W w'):=hid (λW=>by have h:=M6 (o:Int) (n:Int) (m:Int) (s:Int) W ⟨ad,ad,ad⟩ ⟨ad,ad,ad⟩;rw[L,K]at h;exact h);rw[N]at v y;have C:=hid v;have Qy:=hid y;clear hx y v k hpl N r L K;go_step;refine ah ?_;refine ag ?_;refine bh a 2 #[J R (c:Int),J R (d:Int)] ?_;refine aP (lO (c:Int) (d:Int) _ ad ad ad) ?_;rintro e cc ⟨rfl,g⟩;replace a:=a.aG g;refine aQ ?_;refine aI (ai az) (by(go_simp;try omega)) ?_;refine an ?_;go_step;refine ah ?_;refine bh a 1 #[J R (o:Int),J R (n:Int)] ?_;refine ag ?_;refine pl a 0 0 ?_;refine aI _ (nM 3 _ _ 3 aa _ _ _ aa aa qb ad ad) ?_;refine pl a 0 0 ?_;refine ag ?_;refine aP (V _) ?_;rintro e cJ ⟨rfl,g⟩;replace a:=a.aG g;refine aQ ?_;iterate 3 refine ag ?_
   refine bA a #[J _ 0,J _ 0] (λU c5 a=>?_);refine a' a 0 (av _) (λdK a=>?_);refine ag ?_;refine an ?_;go_step;refine cx ?_;refine Jt 3 ?_;iterate 2 refine ag ?_
   refine bh a 0 #[J R (bu:Int),J R (i:Int)] ?_;refine an ?_;have B:=(a.pick (l':=[t,aj U _ 35,aj b1 _ 3,aj f _ 35,aj A _ 35,F]) [4,0,1,2,3,5]).Ep;refine Gf (D _ _ _ _ _ C p B) (λb dz hb=>?_) (λ_ _ he=>he.elim (λh=>⟨_,h.1⟩) (λh=>⟨_,h.1⟩)) (EC aa aa (by simp only[oo,jM,kp];rfl));clear B a;rcases F8 hb with⟨rfl,T,q,a⟩|⟨rfl,T,q,a⟩
   .clear hb;replace a:=a.uR;refine s8 ?_;refine ag ?_;refine an ?_;go_step;refine ah ?_;refine ag ?_;refine aI _ (mZ 3 _ _ 3 aa _ 1 ((c+(j+1):Nat):Int) aa aa ad ad ad) ?_;refine ag ?_;refine an ?_;go_wp2_with fail;go_roundw;case rel=>exact⟨j+1,_,ad,aa,by rw[Qy.out];exact q,a.pick [2,3,4,0,5]⟩
    case measure=>grind[cy]
   .clear hb;replace a:=a.uR;refine s8 ?_;refine ag ?_;refine an ?_;go_wp2_with fail;first|go_end0|refine bodyPost_ret (results_none rfl _ _ _) rfl ?_
    exact sI.cut C q ((ak.bK (l:=[aj b1 _ 3,aj f _ 35]) (a.pick (l':=[aj b1 _ 3,aj f _ 35,T,F]) [2,3,0,5])).pick [1,0,2])
  .obtain rfl:d=j:=ad;have Td:=tQ (by rw[wI];exact b4 _);rw[Td]at p;go_step;refine ah ?_;refine ag ?_;refine bh a 2 #[J R (c:Int),J R (d:Int)] ?_;refine aP (lO (c:Int) (d:Int) _ ad ad ad) ?_;rintro e eY ⟨rfl,g⟩;replace a:=a.aG g;refine aQ ?_;refine aI (ai ao) (by(go_simp;try omega)) ?_;refine an ?_;go_wp2_with fail;first|go_end0|refine bodyPost_ret (results_none rfl _ _ _) rfl ?_
   exact sI.all p trivial ((ak.bK (l:=[aj b1 _ 3,aj f _ 35]) (a.pick (l':=[aj b1 _ 3,aj f _ 35,t,F]) [0,1,3,4])).pick [1,0,2])
section
def Yh:∀(xs ct:List Int),xs.length=ct.length->((dG xs.length).all λi=>xs.getD i 0==ct.getD i 0)=(xs==ct)
 |[],[],_=>aa
 |x::xs,y::ct,h=>by have a:=Yh xs ct aF;rw[js,List.range_succ_eq_map,QF,List.all_map];grind
 |[],_::_,h=>by grind
 |_::_,[],h=>by grind
section
variable {P:ee}
def auN w d (t e) n (c:P.underlying t=ab (wy n e)) (a:P.underlying e=ab (.int d')) (hsz:∀w,(my e).run P w=a6 1 w)
 (xs ct) (hx:xs.length=n) (hy:ct.length=n):(O0 (d+2) t (av (aZ bb xs [])) (av (aZ bb ct []))).run P w=a6 (xs==ct) w:=by
 rw[<-Yh xs ct (hx.trans hy.symm),hx,List.range_eq_range',O0];simp only[ga,gE c,jc,hsz,ayz,ayA,Nat.sub_zero,Nat.add_sub_cancel,Nat.div_one];have b:∀i∈akf 0 n 1,i<n:=λi hi=>by grind
 generalize akf 0 n 1=l at b⊢;induction l with
 |nil=>simp
 |cons i l h=>
  have hi:i<n:=b i a8
  have f:(part e (aZ bb xs []) (i*1)).run P w=a6 (bb (xs.getD i 0)) w:=by simp[aZ,part,tE,gE a,cC (show i<xs.length by omega)]
  have g:(part e (aZ bb ct []) (i*1)).run P w=a6 (bb (ct.getD i 0)) w:=by simp[aZ,part,tE,gE a,cC (show i<ct.length by omega)]
  have aI:(O0 (d+1) e (bb (xs.getD i 0)) (bb (ct.getD i 0))).run P w=a6 (xs.getD i 0==ct.getD i 0) w:=by show(O0 (d+1) e (J d' _) (J d' _)).run P w=_;rw[run_equalIn_int w d e _ _ _ _ a]
  simp only[List.forIn_cons,ga,f,g,aI,jc,QF];cases hb:(xs.getD i 0==ct.getD i 0);·simp
  .grind[jK,jc]
def yy {o} {a:bT} {w} (t e) n (x y) f (ho:o.op=.binOp .neq t x y f) (d:P.underlying t=ab (wy n e)) (b:P.underlying e=ab (.int d')) (g:(P.info? e).map (·.size)=ab 1) (c:P.eqGuardType P.depth t=ao)
 (xs ct) (hx:a.eval x=av (aZ bb xs [])) (hy:a.eval y=av (aZ bb ct [])) (iJ:xs.length=n) (aqs:ct.length=n):
 (bt a.eval o).run P w=a6 (c9 (ai (!(xs==ct)))) w:=by
 have hsz:∀w,(my e).run P w=a6 1 w:=λw=>by
  cases hi:P.info? e with
  |none=>grind
  |some i=>grind[run_sizeOf,Program.cellsOf]
 have h:=auN (P:=P) w 9998 t e n d b hsz xs ct iJ aqs;unfold bt;simp[ho,hx,hy,run_eqGuard_agg w _ _ _ _ _ _ c,run_neq_struct w,h]
def adG{o}{a:bT}{w cs v}{ft k:Nat}ty x f(ho:o.op=.field ty x f)(hx:a.eval x=av cs)(b:(match P.underlying ty with|some (.struct fs)=>(fs[f]?).map (λf=>(f.type,f.offset))|_=>af)=ab (ft,k))(hn:(P.underlying ft).map (λd=>d.isRow)=ab ao)(hv:cs[k]?=ab v):
 (bt a.eval o).run P w=a6 (c9 v) w:=by
 cases hu:P.underlying ty with
 |none=>grind
 |some d=>
  cases d with
  |struct fs=>
   rw[hu]at b;cases hf:fs[f]? with
   |none=>grind
   |some c=>
    simp only[hf,pR,wR,o3]at b;obtain⟨rfl,rfl⟩:=b;cases hd:P.underlying c.type with
    |none=>grind
    |some e=>
     have hagg:(tE c.type).run P w=a6 ao w:=by unfold tE;rw[ga,gE hd w];cases e<;>simp_all
     unfold bt;simp[ho,hx,Instr.field,gE hu,hf,part,hagg,hv,asAgg]
  |_=>simp[hu]at b
end
def amI{o n g h S}:(a7 o n g h S).extract 2 (2+(aZ bb g.l []).size)=aZ bb g.l []:=by
 have h1:(aZ bb g.l []).size=32:=by simp[aZ,g.len]
 have a:(g.l.map bb).length=32:=by simp[g.len]
 rw[h1];apply agc;rw[agf];simp only[a7,aZ,aj8,j1,tS,XR,List.drop_zero];rw[akh a]
def amJ{o n g h S}:(a7 o n g h S).extract 34 (34+(aZ bb h.l []).size)=aZ bb h.l []:=by
 have h1:(aZ bb h.l []).size=32:=by simp[aZ,h.len]
 have a:(h.l.map bb).length=32:=by simp[h.len]
 have b:(g.l.map bb).length=32:=by simp[g.len]
 rw[h1];apply agc;rw[agf];simp only[a7,aZ,aj8,j1,tS];rw[show(34:Nat)=32+1+1 from aa,XR,XR,List.drop_left' b,akh a]
def mW(w:aM)(A:Option bQ):Prop:=∀b,eb A b->b<w.heap.size
def mW.aG{w w' A}(h:mW w A)(g:ar w w'):mW w' A:=λb hb=>Nat.lt_of_lt_of_le (h b hb) g.size
def TP a aJ c2 bs w ty(d:bs.length<=35184372088832)(hcell:aU w a #[ae aJ bs.length c2] ty)(hb:bX w aJ bs)(c:mW w aJ):
 aD aw 76 #[ae (ab ⟨a,0,af⟩) 1 1] w λe w'=>e=aB (av (aZ bb (gz bs) []))/\ar w w':=
 ae8 a 0 1 aJ c2 bs w d (hcell.cell 0 aa) hb (λb off e=>c b ⟨off,af,e⟩)
end
end Go.Proofs.YtcmhplknoglbkaaGreat
