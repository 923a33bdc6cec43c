/- Part 4 of the proof of TopConvertsSaid. -/
import Derived.DeepKeys4
import Derived.Maps.OwnOps
import Derived.Test.YtcmhplknoglbkaaGreatQc0
import Derived.Test.YtcmhplknoglbkaaGreatQc2
import Derived.Test.YtcmhplknoglbkaaGreatQc3
set_option linter.all false
set_option maxRecDepth 100000
set_option maxHeartbeats 4000000
open Go.Proofs.Tryz
open Array renaming ext'->afV,toList_extract->afY
open BitVec renaming ofInt->nw
open Bool renaming false->au,true->aB
open Decidable renaming of_not_not->C9
open Go renaming Act->bT,Addr->bU,Calls->aD,Oper->cR,Program->eu,Value->aO,World->aM,bodyPost_ret->dn,builtin->pv,execOp->bt,heap_alloc_new->fe,invoke->mW,isAgg->tu,madeCells->F9,maxLen->dN,resolve->mX,results_cell_row->jd,results_tmp->Pk,run_copy_row->JX,run_underlying->gF,sizeOf->mu,undef->aY,wpList->cG,wpList_nil->an,wp_region_lit->cM
open Go.Addr renaming add->we
open Go.Callee renaming builtin->n2
open Go.ChangeMaps renaming setBlock->kR
open Go.Ending renaming returned->aA
open Go.Fn renaming func->ej
open Go.IntKind renaming bits->Di,i64->R,signed->JF,u32->wj,u64->aG,u8->d',wrap->Dj
open Go.Next renaming value->c8
open Go.Op renaming call->mU,equalIn->OK,indexAddr->Dk
open Go.Operand renaming const->qk,tmp->bb
open Go.Proofs.Tryz renaming func209->Vp,func218->Vq,func281->OR,func283->Vz,func326->VC,ntmps209->VT,ntmps218->VU,ntmps281->OX,ntmps283->VY,ntmps326->VZ,prog->ax,underlying118->uN,underlying22->dI,underlying23->tq,underlying3->j2,underlying35->A7,underlying354->Wb,underlying435->Wh
open Go.Proofs renaming enters_of->ll
open Go.Region renaming wanted->c4
open Go.Result renaming andThen_ok->ji,ok->a7
open Go.RowKit renaming Hid->aE,intOf->cw
open Go.Sem renaming run_bind->gj,run_pure->jR
open Go.TypeDesc renaming array->wz,slice->hT
open Go.Value renaming agg->av,bool->ak,func->dJ,int->J,map->dE,pointer->ay,slice->ad,tuple->bg
open List renaming all_cons->Kq,append_assoc->j5,append_nil->j6,drop_succ_cons->Xy,eq_nil_of_length_eq_zero->jH,extract->ajV,foldl_cons->zF,getElem?_eq_getElem->cj,getElem?_map->kB,length_append->dv,length_cons->jT,length_drop->vh,length_map->gU,length_replicate->rB,length_set->wN,map_append->gx,map_cons->jx,map_nil->kC,map_toArray->og,mem_append->jf,mem_cons->gy,mem_cons_self->sx,mem_map->gV,mem_of_getElem?->cL,mem_singleton->vi,not_mem_nil->ga,perm_append_comm->vk,range->dF,range'->aj1,range_succ->pE,replicate->fq,take_add_one->fu,take_left'->aj3,take_of_length_le->tF
open Min renaming min->gW
open Nat renaming add_div_right->XI,add_sub_cancel_left->tG,div_eq_of_lt->XJ,div_le_div_right->aj6,div_le_self->zH,eq_zero_or_pos->lJ,le_div_iff_mul_le->aj8,le_mul_of_pos_left->GO,le_mul_of_pos_right->zI,le_refl->cm,le_trans->eC,mul_comm->Kx,mul_le_mul_right->tH,sub_le->GP,succ_mul->vm,zero_add->kV,zero_le->cQ
open Option renaming getD_some->pG,map_some->oW,none->af,some->ab
open Option.some renaming injEq->wQ
open Or renaming inl->bH,inr->b1
open Prod.mk renaming injEq->oh
open Std.Legacy.Range renaming forIn_eq_forIn_range'->aya,size->ayb
namespace Go.Proofs.YtcmhplknoglbkaaGreat
section
open Go.RowKit Go.MapKept
def afC(bs:List Int)(i:Nat):Int:=xr (xr (xr (vP (j8 (bs[4*i]?.getD 0)) 24) (vP (j8 (bs[4*i+1]?.getD 0)) 16)) (vP (j8 (bs[4*i+2]?.getD 0)) 8)) (j8 (bs[4*i+3]?.getD 0))
def um(bs:List Int):Nat->List Int
 |0=>fq 16 0
 |i+1=>(um bs i).set i (afC bs i)
def Mj(bs:List Int):∀q,(um bs q).length=16
 |0=>aa
 |q+1=>by rw[um,wN];exact Mj bs q
def AI(t:Nat)(w:List Int):List Int:=if 16<=t then w.set (t%16) (a32 (w[t%16]?.getD 0) (a32 (a32 (kt (kt (kO (w[(t+1)%16]?.getD 0) 25) (kO (w[(t+1)%16]?.getD 0) 14)) (kb (w[(t+1)%16]?.getD 0) 3)) (w[(t+9)%16]?.getD 0)) (kt (kt (kO (w[(t+14)%16]?.getD 0) 15) (kO (w[(t+14)%16]?.getD 0) 13)) (kb (w[(t+14)%16]?.getD 0) 10))))else w
def auL{t:Nat}{w:List Int}{n:Nat}(h:w.length=n):(AI t w).length=n:=by
 unfold AI;split;·rw[wN];exact h
 .exact h
def AK(v:List Int):List Int:=v.take 1++v.take 7
def CN{v:List Int}(h:v.length=8):(AK v).length=8:=by simp[AK,h]
def afd(k a:Int)(v:List Int):Int:=a32 (a32 (a32 (a32 (v[7]?.getD 0) (kt (kt (kO (v[4]?.getD 0) 26) (kO (v[4]?.getD 0) 21)) (kO (v[4]?.getD 0) 7))) (kt (v[6]?.getD 0) (n32 (v[4]?.getD 0) (kt (v[5]?.getD 0) (v[6]?.getD 0))))) k) a
def avt(v:List Int):Int:=a32 (kt (kt (kO (v[0]?.getD 0) 30) (kO (v[0]?.getD 0) 19)) (kO (v[0]?.getD 0) 10)) (xr (n32 (v[0]?.getD 0) (v[1]?.getD 0)) (n32 (v[2]?.getD 0) (xr (v[0]?.getD 0) (v[1]?.getD 0))))
def T3(k a:Int)(v:List Int):List Int:=((AK v).set 4 (a32 ((AK v)[4]?.getD 0) (afd k a v))).set 0 (a32 (afd k a v) (avt v))
def at7{k a:Int}{v:List Int}(h:v.length=8):(T3 k a v).length=8:=by simp only[T3,wN];exact CN h
def IT(t:Nat)(p:List Int×List Int):List Int×List Int:=(AI t p.1,T3 (yT[t]?.getD 0) ((AI t p.1)[t%16]?.getD 0) p.2)
def aui{t:Nat}{p:List Int×List Int}(h:p.1.length=16/\p.2.length=8):(IT t p).1.length=16/\(IT t p).2.length=8:=⟨auL h.1,at7 h.2⟩
def vX(bs ws:List Int):Nat->List Int×List Int
 |0=>(bs,ws)
 |t+1=>IT t (vX bs ws t)
def TX{bs ws:List Int}(hb:bs.length=16)(h:ws.length=8):∀t,(vX bs ws t).1.length=16/\(vX bs ws t).2.length=8
 |0=>⟨hb,h⟩
 |t+1=>by rw[vX];exact aui (TX hb h t)
def AO(v:List Int)(ws:List Int):Nat->List Int
 |0=>ws
 |i+1=>(AO v ws i).set i (a32 ((AO v ws i)[i]?.getD 0) (v[i]?.getD 0))
def Nk{v ws:List Int}(h:ws.length=8):∀i,(AO v ws i).length=8
 |0=>h
 |i+1=>by rw[AO,wN];exact Nk h i
def DY(ws bs:List Int):List Int:=AO (vX (um bs 16) ws 64).2 ws 8
theorem DZ{ws bs:List Int}(h:ws.length=8):(DY ws bs).length=8:=Nk h 8
def aeK{v:List Int}(h:v.length=8):((aX b' v []).toList.take 1++(v.take 7).map b'++(aX b' v []).toList.drop (1+7)).toArray=aX b' (AK v) []:=by
 have h1:(aX b' v []).toList=v.map b':=by simp[aX]
 rw[h1];have a:(v.map b').drop (1+7)=[]:=List.drop_eq_nil_of_le (by simp[h]);rw[a];simp[aX,AK,List.map_take]
def YK{w:aM}{B t j:Nat}{v:aO}{b:List Int}(hb:aW w B (aX b' b []) t)(c:b.length=8)(a:((b.take 7).map b')[j]?=ab v):w.cell? ((⟨B,0,af⟩:bU).add j)=ab v:=by
 rw[nG,kV];refine aW.cell hb j ?_;rw[kB,List.getElem?_take]at a;simp only[aX,j6,List.getElem?_toArray,kB];split at a;·exact a
 .cases a
section
variable {P:eu} {o:cR} {a:bT} {w:aM}
def YJ{d m:Operand}{e l f B off c h g k t n:Nat}{b:bU}{old new:Array aO}(cs:List aO)(u:o.op=mU {callee:=n2 .copy,args:=#[d,m],argTypes:=#[e,l]})(q:a.eval d=ad (ab ⟨B,off,af⟩) c h)(z:a.eval m=ad (ab b) g k)(i:aW w B old t)(y:∀j v,cs[j]?=ab v->w.cell? (b.add j)=ab v)(p:cs.length=n)(s:(old.toList.take off++cs++old.toList.drop (off+n)).toArray=new)(hcs:n=Nat.min g c)(r:off+n<=old.size)(h1:∀v∈cs,v.oneCell'=aB)(A:P.underlying e=ab (hT f))(x:(P.info? f).map (·.size)=ab 1):
 ∃w',(bt a.eval o).run P w=a7 (c8 (J R (n:Int))) w'/\Turned w w' (ai B old t) (ai B new t):=by
 subst p;have hr:=JX (P:=P) w e l o.type f B off c h b g k old t cs A x i hcs y r h1;refine⟨w.setRow B (old.toList.take off++cs++old.toList.drop (off+cs.length)).toArray,?_,vq (ar.setRow w B _) (s▸i.setRow _)⟩;unfold bt;simp only[u,mX,mW,pv,gj,jR,ji,og,jx,kC,q,z,hr];rfl
end
set_option maxHeartbeats 8000000 in
def ak8(B t:Nat)(ws:List Int)(s:aO)(n:Int)(A:Option bU)(dB:Nat)(bs:List Int)(w:aM)(ht:t≠5)(qM:ws.length=8)(hl:bs.length=64)(hb:bR w A bs)(hne:∀off sp,A≠ab ⟨B,off,sp⟩)(U:aW w B (aX b' ws [s,J R n]) t):
 aD ax 299 #[ay (ab ⟨B,0,af⟩),ad A 64 dB] w λe w'=>e=aA (bg #[])/\ar (λb=>b=B) w w'/\aW w' B (aX b' (DY ws bs) [s,J R n]) t:=by
 obtain⟨l,g,rfl,P⟩:=hb ae;have E:=hid P;have u:=hid qM;have azC:l≠B:=λe=>hne g af (by rw[e]);clear hb P hne;go_enter func299,ntmps299;have a:=aj.start (t:=ai B (aX b' ws [s,J R n]) t) ⟨U,λb e=>(show b=B from e)▸aW.lt U⟩;go_upto_region 0 with fail;refine cM ?_;refine bx a (aX b' (um bs 0) []) (λD w1 a=>?_);refine an ?_;go_upto_region 1 with fail;refine cM ?_;refine ah ?_;refine Lh ?_;go_loopw [21] (λh wr=>∃q:Nat,q<=16/\h=J R q/\aj w (λb=>b=B) wr [ai D (aX b' (um bs q) []) 434,ai B (aX b' (ws) [s,J R n]) t]) (λh wr=>16 -(cw h).toNat);case atStart=>exact⟨0,cQ _,aa,a⟩
 case round=>
  clear a;obtain⟨q,T,rfl,a⟩:=hrel;by_cases hlt:q<16
  .have S:(q:Int)<16:=ae;obtain⟨kW,hb0⟩:=ex (bs[4*q]?.getD 0);have X:=E (4*q) ae;rw[hb0]at X;obtain⟨eR,hb1⟩:=ex (bs[4*q+1]?.getD 0);have Y:=E (4*q+1) ae;rw[hb1]at Y;obtain⟨eY,hb2⟩:=ex (bs[4*q+2]?.getD 0);have Z:=E (4*q+2) ae;rw[hb2]at Z;obtain⟨sC,hb3⟩:=ex (bs[4*q+3]?.getD 0);have z3:=E (4*q+3) ae;rw[hb3]at z3;have F:=hid (And.intro hb0 (And.intro hb1 (And.intro hb2 hb3)));clear hb0 hb1 hb2 hb3;go_upto_region 3 with fail;refine cM ?_;refine v2 ?_;refine an ?_;go_upto_region 4 with fail;refine bN a [35] (λ_ _=>aY) (λ_=>λ|35=>ai D (aX b' ((um bs q).set q (xr (xr (xr (vP (j8 kW) 24) (vP (j8 eR) 16)) (vP (j8 eY) 8)) (j8 sC))) []) 434|_=>emp) (λ|35=>[0]|_=>[]) (λ_=>[]) (λ_=>[]) [1,37] (λo=>?_);refine c7 ?_;refine Lb 4 (q:Int) ((4*q:Nat):Int) ?_;refine aL (ay (ab ⟨l,(g+(4*q)),af⟩)) (λ_ _ _=>cH 22 5 1 (bb 25) (bb 27) aa dI aw l g 64 dB ((4*q)) ((g+(4*q))) aa aa ae ae) ?_;refine l8 X ?_;refine gB (b' (j8 kW)) ?_;refine gB (b' (vP (j8 kW) 24)) ?_;refine bp ?_;refine Lb 4 (q:Int) ((4*q:Nat):Int) ?_;refine tR ((4*q:Nat):Int) 1 ((4*q+1:Nat):Int) ?_;refine aL (ay (ab ⟨l,(g+(4*q+1)),af⟩)) (λ_ _ _=>cH 22 5 1 (bb 32) (bb 35) aa dI aw l g 64 dB ((4*q+1)) ((g+(4*q+1))) aa aa ae ae) ?_;refine l8 Y ?_;refine gB (b' (j8 eR)) ?_;refine gB (b' (vP (j8 eR) 16)) ?_;refine pP ?_;refine bp ?_;refine Lb 4 (q:Int) ((4*q:Nat):Int) ?_;refine tR ((4*q:Nat):Int) 2 ((4*q+2:Nat):Int) ?_;refine aL (ay (ab ⟨l,(g+(4*q+2)),af⟩)) (λ_ _ _=>cH 22 5 1 (bb 41) (bb 44) aa dI aw l g 64 dB ((4*q+2)) ((g+(4*q+2))) aa aa ae ae) ?_;refine l8 Z ?_;refine gB (b' (j8 eY)) ?_;refine gB (b' (vP (j8 eY) 8)) ?_;refine pP ?_;refine bp ?_;refine Lb 4 (q:Int) ((4*q:Nat):Int) ?_;refine tR ((4*q:Nat):Int) 3 ((4*q+3:Nat):Int) ?_;refine aL (ay (ab ⟨l,(g+(4*q+3)),af⟩)) (λ_ _ _=>cH 22 5 1 (bb 50) (bb 53) aa dI aw l g 64 dB ((4*q+3)) ((g+(4*q+3))) aa aa ae ae) ?_;refine l8 z3 ?_;refine gB (b' (j8 sC)) ?_;refine pP ?_;refine pN ?_;refine Rj (Mj ..) ?_;refine bQ λaR a=>?_;go_wp2_with fail;go_roundw;case rel=>exact⟨q+1,ae,by go_num,by rw[um,afC,F.1,F.2.1,F.2.2.1,F.2.2.2];exact a.pick [1,0]⟩
   case measure=>simp[cw];omega
  .obtain rfl:q=16:=ae;go_upto_region 6 with fail;refine cM ?_;refine v3 ?_;refine MZ a 1 u ?_;refine bx a (aX b' (fq 8 0) []) (λL bL a=>?_);refine CH a 0 (rB ..) u (λca a=>?_);refine an ?_;go_upto_region 7 with fail;refine cM ?_;refine bA (S' _) a (λcF a=>?_);refine ah ?_;refine Lh ?_;go_loopw [65] (λh wr=>∃q:Nat,q<=64/\h=J R q/\aj w (λb=>b=B) wr [ai L (aX b' ((vX (um bs 16) ws q).2) []) 352,ai D (aX b' ((vX (um bs 16) ws q).1) []) 434,ai B (aX b' (ws) [s,J R n]) t]) (λh wr=>64 -(cw h).toNat);case atStart=>exact⟨0,cQ _,aa,a⟩
   case round=>
    clear a;obtain⟨q,T,rfl,a⟩:=hrel;obtain⟨d,I⟩:=ex (vX (um bs 16) ws q).1;obtain⟨f,H⟩:=ex (vX (um bs 16) ws q).2;have hl4:d.length=16:=by rw[<-I];exact(TX (Mj bs 16) u q).1
    have Q:f.length=8:=by rw[<-H];exact(TX (Mj bs 16) u q).2
    rw[I,H]at a;have y:=hid (And.intro I H);have r:=hid hl4;have c:=hid Q;clear I H hl4 Q;by_cases hlt:q<64
    .have S:(q:Int)<64:=ae;obtain⟨k,hx0⟩:=ex (q%16);obtain⟨dc,hx1⟩:=ex ((q+1)%16);obtain⟨K,W⟩:=ex ((q+9)%16);obtain⟨p,V⟩:=ex ((q+14)%16);by_cases G:16<=q
     .have aoo:(16:Int)<=(q:Int):=ae;go_upto_region 9 with fail;refine cM ?_;refine ah ?_;refine aI (b' (yT[q]?.getD 0)) (S7 435 315 64 (bb 64) (bb 65) aa Wh aw aw b' yT q aa aa hlt S9) ?_;refine v2 ?_;refine an ?_;go_upto_region 10 with fail;refine cM ?_;refine v2 ?_;refine an ?_;go_upto_region 11 with fail;refine bN a [] (λ_ _=>aY) (λ_ _=>emp) (λ_=>[]) (λ|4=>[1]|9=>[1]|_=>[]) (λ_=>[]) [0,1,2] (λo=>?_);refine aK ?_;refine tR (q:Int) 1 ((q+1:Nat):Int) ?_;refine aL (J R (dc:Int)) (λ_ _ _=>DX 3 (bb 72) (qk (J R 15)) 3 aa ((q+1)) aa aa ae dc ae) ?_;refine pN ?_;refine sJ 0 r ?_;refine aK ?_;refine tR (q:Int) 14 ((q+14:Nat):Int) ?_;refine aL (J R (p:Int)) (λ_ _ _=>DX 3 (bb 77) (qk (J R 15)) 3 aa ((q+14)) aa aa ae p ae) ?_;refine pN ?_;refine sJ 0 r ?_;refine bp ?_;refine bQ λc6 a=>?_;go_upto_region 12 with fail;refine cM ?_;refine ah ?_;refine bA (p8 _ (-7) 25 _ bh) a (λdW a=>?_);refine ah ?_;refine bA (p8 _ (-18) 14 _ bh) a (λdG a=>?_);refine pu ?_;refine ah ?_;refine pk (b' (kb (d[dc]?.getD 0) 3)) ?_;refine pu ?_;refine ah ?_;refine an ?_;go_upto_region 13 with fail;refine cM ?_;refine ah ?_;refine bA (p8 _ (-17) 15 _ bh) a (λe8 a=>?_);refine ah ?_;refine bA (p8 _ (-19) 13 _ bh) a (λhR a=>?_);refine pu ?_;refine ah ?_;refine pk (b' (kb (d[p]?.getD 0) 10)) ?_;refine pu ?_;refine ah ?_;refine an ?_;go_upto_region 14 with fail;refine bN a [15] (λ_ _=>aY) (λ_=>λ|15=>ai D (aX b' (d.set k (a32 (d[k]?.getD 0) (a32 (a32 (kt (kt (kO (d[dc]?.getD 0) 25) (kO (d[dc]?.getD 0) 14)) (kb (d[dc]?.getD 0) 3)) (d[K]?.getD 0)) (kt (kt (kO (d[p]?.getD 0) 15) (kO (d[p]?.getD 0) 13)) (kb (d[p]?.getD 0) 10))))) []) 434|_=>emp) (λ|15=>[1]|_=>[]) (λ|3=>[1]|9=>[1]|_=>[]) (λ_=>[]) [0,2,18] (λo=>?_);refine aK ?_;refine aL (J R (k:Int)) (λ_ _ _=>DX 3 (bb 97) (qk (J R 15)) 3 aa q aa aa ae k ae) ?_;refine pN ?_;refine sJ 0 r ?_;refine bp ?_;refine tR (q:Int) 9 ((q+9:Nat):Int) ?_;refine aL (J R (K:Int)) (λ_ _ _=>DX 3 (bb 103) (qk (J R 15)) 3 aa ((q+9)) aa aa ae K ae) ?_;refine pN ?_;refine sJ 0 r ?_;refine pP ?_;refine aK ?_;iterate 2 refine pP ?_
      refine pN ?_;refine Rj r ?_;refine bQ λiZ a=>?_;obtain⟨z,m⟩:=ex (d.set k (a32 (d[k]?.getD 0) (a32 (a32 (kt (kt (kO (d[dc]?.getD 0) 25) (kO (d[dc]?.getD 0) 14)) (kb (d[dc]?.getD 0) 3)) (d[K]?.getD 0)) (kt (kt (kO (d[p]?.getD 0) 15) (kO (d[p]?.getD 0) 13)) (kb (d[p]?.getD 0) 10)))));rw[m]at a;have C:z.length=16:=by rw[<-m];exact(wN.trans r)
      have N:aE (AI q d=z):=hid (by rw[<-m];unfold AI;first|rw[if_pos G,hx0,hx1,W,V]|rw[if_neg G]);have M:=hid C;clear m C;go_upto_region 15 with fail;refine bN a [] (λ_ _=>aY) (λ_ _=>emp) (λ_=>[]) (λ|1=>[0]|3=>[0]|_=>[]) (λ_=>[]) [0,1,2] (λo=>?_);refine pN ?_;refine sJ 0 c ?_;refine pN ?_;refine sJ 0 c ?_;refine bp ?_;refine bQ λks a=>?_;go_upto_region 16 with fail;refine cM ?_;refine mM ?_;refine pa a 0 c ?_;refine ah ?_;refine mM ?_;refine pa a 0 c ?_;refine mM ?_;refine pa a 0 c ?_;iterate 3 refine pu ?_
      refine ah ?_;refine an ?_;go_upto_region 17 with fail;refine cM ?_;refine ah ?_;refine mM ?_;refine pa a 0 c ?_;refine pu ?_;refine mM ?_;refine pa a 0 c ?_;refine ah ?_;refine mM ?_;refine pa a 0 c ?_;iterate 3 refine pu ?_
      refine ah ?_;refine an ?_;go_upto_region 18 with fail;refine bN a [3,5,8] (λi _=>match i with|3=>b' (kO (f[4]?.getD 0) 26)|5=>b' (kO (f[4]?.getD 0) 21)|8=>b' (kO (f[4]?.getD 0) 7)|_=>aY) (λ_ _=>emp) (λ_=>[]) (λ|1=>[0]|18=>[2]|_=>[]) (λ_=>[]) [0,1,2,6,8,11] (λo=>?_);refine pN ?_;refine sJ 0 c ?_;refine aK ?_;refine dD (λ_ _ _=>p8 _ (-6) 26 _ bh) ?_;refine aK ?_;refine dD (λ_ _ _=>p8 _ (-11) 21 _ bh) ?_;refine pP ?_;refine aK ?_;refine dD (λ_ _ _=>p8 _ (-25) 7 _ bh) ?_;iterate 2 refine pP ?_
      refine aK ?_;refine pP ?_;refine aK ?_;refine pP ?_;refine aK ?_;refine aL (J R (k:Int)) (λ_ _ _=>DX 3 (bb 153) (qk (J R 15)) 3 aa q aa aa ae k ae) ?_;refine pN ?_;refine sJ 0 M ?_;refine pP ?_;refine aK ?_;refine bQ λlf a=>?_;replace a:=a.drop 3;replace a:=a.drop 3;replace a:=a.drop 3;go_upto_region 19 with fail;refine cM ?_;refine ah ?_;refine bA (p8 _ (-2) 30 _ bh) a (λmm a=>?_);refine ah ?_;refine bA (p8 _ (-13) 19 _ bh) a (λnX a=>?_);refine pu ?_;refine ah ?_;refine bA (p8 _ (-22) 10 _ bh) a (λpd a=>?_);refine pu ?_;refine ah ?_;refine pu ?_;refine ah ?_;refine an ?_;go_upto_region 20 with fail;refine bN a [2] (λi _=>match i with|2=>J R 7|_=>aY) (λ_=>λ|2=>ai L (aX b' (AK f) []) 352|_=>emp) (λ|2=>[0]|_=>[]) (λ_=>[]) (λ_=>[]) [1,2,5] (λo=>?_);refine bp ?_;refine D' (J R 7) (λ_ _ a=>YJ ((f.take 7).map b') aa aa aa (a.aZ 0) (λj v O=>YK (a.aZ 0) c O) (n:=7) (by simp[c.out]) (aeK c) aa (by rw[j7,c];decide) (λv hv=>by obtain⟨x,_,rfl⟩:=gV.1 hv;rfl) aa aw) ?_;refine bQ λtc a=>?_;go_upto_region 21 with fail;refine cM ?_;refine mM ?_;refine pa a 2 (CN c) ?_;refine ah ?_;refine pu ?_;refine mM ?_;refine Fk a 2 (CN c) (λtd a=>?_);refine an ?_;go_upto_region 22 with fail;refine cM ?_;refine v2 ?_;refine pu ?_;refine mM ?_;refine Fk a 2 (wN.trans (CN c)) (λxD a=>?_);refine an ?_;go_wp2_with fail;go_roundw;case rel=>exact⟨q+1,ae,by go_num,by rw[vX,IT,y.1,y.2,N,hx0];exact a.pick [2,1,0]⟩
      case measure=>simp[cw];omega
     .have aoo:¬(16:Int)<=(q:Int):=ae;go_upto_region 9 with fail;refine cM ?_;refine ah ?_;refine aI (b' (yT[q]?.getD 0)) (S7 435 315 64 (bb 64) (bb 65) aa Wh aw aw b' yT q aa aa hlt S9) ?_;refine v2 ?_;refine an ?_;go_upto_region 10 with fail;refine cM ?_;refine v2 ?_;refine an ?_;obtain⟨z,m⟩:=ex d;rw[m]at a;have C:z.length=16:=by rw[<-m];exact r
      have N:aE (AI q d=z):=hid (by rw[<-m];unfold AI;first|rw[if_pos G,hx0,hx1,W,V]|rw[if_neg G]);have M:=hid C;clear m C;go_upto_region 15 with fail;refine bN a [] (λ_ _=>aY) (λ_ _=>emp) (λ_=>[]) (λ|1=>[0]|3=>[0]|_=>[]) (λ_=>[]) [0,1,2] (λo=>?_);refine pN ?_;refine sJ 0 c ?_;refine pN ?_;refine sJ 0 c ?_;refine bp ?_;refine bQ λAS a=>?_;go_upto_region 16 with fail;refine cM ?_;refine mM ?_;refine pa a 0 c ?_;refine ah ?_;refine mM ?_;refine pa a 0 c ?_;refine mM ?_;refine pa a 0 c ?_;iterate 3 refine pu ?_
      refine ah ?_;refine an ?_;go_upto_region 17 with fail;refine cM ?_;refine ah ?_;refine mM ?_;refine pa a 0 c ?_;refine pu ?_;refine mM ?_;refine pa a 0 c ?_;refine ah ?_;refine mM ?_;refine pa a 0 c ?_;iterate 3 refine pu ?_
      refine ah ?_;refine an ?_;go_upto_region 18 with fail;refine bN a [3,5,8] (λi _=>match i with|3=>b' (kO (f[4]?.getD 0) 26)|5=>b' (kO (f[4]?.getD 0) 21)|8=>b' (kO (f[4]?.getD 0) 7)|_=>aY) (λ_ _=>emp) (λ_=>[]) (λ|1=>[0]|18=>[1]|_=>[]) (λ_=>[]) [0,1,2,6,8,11] (λo=>?_);refine pN ?_;refine sJ 0 c ?_;refine aK ?_;refine dD (λ_ _ _=>p8 _ (-6) 26 _ bh) ?_;refine aK ?_;refine dD (λ_ _ _=>p8 _ (-11) 21 _ bh) ?_;refine pP ?_;refine aK ?_;refine dD (λ_ _ _=>p8 _ (-25) 7 _ bh) ?_;iterate 2 refine pP ?_
      refine aK ?_;refine pP ?_;refine aK ?_;refine pP ?_;refine aK ?_;refine aL (J R (k:Int)) (λ_ _ _=>DX 3 (bb 153) (qk (J R 15)) 3 aa q aa aa ae k ae) ?_;refine pN ?_;refine sJ 0 M ?_;refine pP ?_;refine aK ?_;refine bQ λCZ a=>?_;replace a:=a.drop 3;replace a:=a.drop 3;replace a:=a.drop 3;go_upto_region 19 with fail;refine cM ?_;refine ah ?_;refine bA (p8 _ (-2) 30 _ bh) a (λC0 a=>?_);refine ah ?_;refine bA (p8 _ (-13) 19 _ bh) a (λFG a=>?_);refine pu ?_;refine ah ?_;refine bA (p8 _ (-22) 10 _ bh) a (λI' a=>?_);refine pu ?_;refine ah ?_;refine pu ?_;refine ah ?_;refine an ?_;go_upto_region 20 with fail;refine bN a [2] (λi _=>match i with|2=>J R 7|_=>aY) (λ_=>λ|2=>ai L (aX b' (AK f) []) 352|_=>emp) (λ|2=>[0]|_=>[]) (λ_=>[]) (λ_=>[]) [1,2,5] (λo=>?_);refine bp ?_;refine D' (J R 7) (λ_ _ a=>YJ ((f.take 7).map b') aa aa aa (a.aZ 0) (λj v O=>YK (a.aZ 0) c O) (n:=7) (by simp[c.out]) (aeK c) aa (by rw[j7,c];decide) (λv hv=>by obtain⟨x,_,rfl⟩:=gV.1 hv;rfl) aa aw) ?_;refine bQ λUn a=>?_;go_upto_region 21 with fail;refine cM ?_;refine mM ?_;refine pa a 2 (CN c) ?_;refine ah ?_;refine pu ?_;refine mM ?_;refine Fk a 2 (CN c) (λUo a=>?_);refine an ?_;go_upto_region 22 with fail;refine cM ?_;refine v2 ?_;refine pu ?_;refine mM ?_;refine Fk a 2 (wN.trans (CN c)) (λUp a=>?_);refine an ?_;go_wp2_with fail;go_roundw;case rel=>exact⟨q+1,ae,by go_num,by rw[vX,IT,y.1,y.2,N,hx0];exact a.pick [2,0,1]⟩
      case measure=>simp[cw];omega
    .obtain rfl:q=64:=ae;replace a:=a.drop 1;go_upto_region 24 with fail;refine cM ?_;refine MZ a 0 c ?_;refine ah ?_;refine Lh ?_;go_loopw [182] (λh wr=>∃q:Nat,q<=8/\h=J R q/\aj w (λb=>b=B) wr [ai B (aX b' (AO f ws q) [s,J R n]) t]) (λh wr=>8 -(cw h).toNat);case atStart=>exact⟨0,cQ _,aa,a.drop 0⟩
     case round=>
      clear a;obtain⟨q,T,rfl,a⟩:=hrel;by_cases hlt:q<8
      .have S:(q:Int)<8:=ae;go_upto_region 26 with fail;refine cM ?_;refine ah ?_;refine aI (b' (f[q]?.getD 0)) (S7 352 315 8 (bb 181) (bb 182) aa underlying352 aw aw b' f q aa aa hlt c) ?_;refine v2 ?_;refine an ?_;go_upto_region 27 with fail;refine bN a [11] (λ_ _=>aY) (λ_=>λ|11=>ai B (aX b' ((AO f ws q).set q (a32 ((AO f ws q)[q]?.getD 0) (f[q]?.getD 0))) [s,J R n]) t|_=>emp) (λ|11=>[0]|_=>[]) (λ|5=>[0]|_=>[]) (λ_=>[]) [12] (λo=>?_);refine iw ?_;refine pN ?_;refine sJ 0 (Nk u q) ?_;refine aK ?_;refine pP ?_;refine bp ?_;refine pN ?_;refine Rj (Nk u q) ?_;refine bQ λUq a=>?_;go_wp2_with fail;go_roundw;case rel=>exact⟨q+1,ae,by go_num,a⟩
       case measure=>simp[cw];omega
      .obtain rfl:q=8:=ae;refine dS ?_;refine⟨aa,a.only,?_⟩;rw[DY,y.2];exact a.aZ 0
end
open Go.RowKit Go.MapKept
def pH(ws:List Int)(l:List Int):List Int×List Int:=if 64<=l.length then pH (DY ws (l.take 64)) (l.drop 64)else(ws,l)
termination_by l.length
decreasing_by grind
theorem KM{ws l}(h:64<=l.length):pH ws l=pH (DY ws (l.take 64)) (l.drop 64):=by grind[pH]
def KN{ws l}(h:¬64<=l.length):pH ws l=(ws,l):=by grind[pH]
def XY(ws l)(h:ws.length=8):(pH ws l).1.length=8/\(pH ws l).2.length<64/\(pH ws l).2.length<=l.length:=by
 by_cases h1:64<=l.length;·rw[KM h1];have:=XY (DY ws (l.take 64)) (l.drop 64) (DZ h);rw[vh]at this;omega
 .rw[KN h1];exact⟨h,by show l.length<64;omega,cm _⟩
termination_by l.length
decreasing_by grind
def XX(ws l x):pH ws (l++x)=pH (pH ws l).1 ((pH ws l).2++x):=by
 by_cases h1:64<=l.length;·rw[KM h1,KM (by rw[dv];omega),List.take_append_of_le_length h1,List.drop_append_of_le_length h1];exact XX _ _ _
 .rw[KN h1]
termination_by l.length
decreasing_by grind
def yS:List Int:=[1779033703,3144134277,1013904242,2773480762,1359893119,2600822924,528734635,1541459225]
def iX(msg:List Int):List Int×List Int:=pH yS msg
def CM msg:(iX msg).1.length=8/\(iX msg).2.length<64/\(iX msg).2.length<=msg.length:=XY _ _ aa
def iN(t B:Nat)(A:Option bU)(msg:List Int):br:=⟨λb=>b=B\/dU A b,λw=>t≠5/\∃c,aW w B (aX b' (iX msg).1 [ad A (iX msg).2.length c,J R (msg.length:Int)]) t/\eX 0 w A (iX msg).2.length c 5 ((iX msg).2.map a8),λw w' h a ⟨e,c,h1,d⟩=>
 ⟨e,c,(h B (bH aa) (a B (bH aa))).trans h1,(ww A _ c 5 _).oA w w' (λb hb=>h b (b1 hb)) (λb hb=>a b (b1 hb)) d⟩⟩
abbrev ir(B:Nat)(A:Option bU)(msg:List Int):br:=iN 357 B A msg
def iN.split{ao w FX l t B A msg}(h:aj ao FX w (iN t B A msg::l)):∃c,aj ao FX w (ai B (aX b' (iX msg).1 [ad A (iX msg).2.length c,J R (msg.length:Int)]) t::ww A (iX msg).2.length c 5 ((iX msg).2.map a8)::l):=by obtain⟨d,c,h1,a⟩:=h.at 0;exact⟨c,(h.as 0 aa (both (ai B _ t) (ww A _ c 5 _)) (λ_=>⟨h1,a,λb hb hb2=>eX.arZ a h1 d ((show b=B from hb)▸hb2)⟩) (λ_ hb=>hb)).fh⟩
def iN.close{ao w FX l}{t B c:Nat}{A msg}(a:t≠5)(h:aj ao FX w (ai B (aX b' (iX msg).1 [ad A (iX msg).2.length c,J R (msg.length:Int)]) t::ww A (iX msg).2.length c 5 ((iX msg).2.map a8)::l)):aj ao FX w (iN t B A msg::l):=
 h.star.as 0 aa (iN t B A msg) (λh=>⟨a,c,h.1,h.2.1⟩) (λ_ hb=>hb)
def T2(w:aM)(B:Nat):Nat:=match w.cell? ⟨B,8,af⟩with
 |some (ad _ n _)=>n
 |_=>0
def ad9{w B n c A}(h:w.cell? ⟨B,8,af⟩=ab (ad A n c)):T2 w B=n:=by grind[T2]
def S2{A c i sz b}(h:dU (fE A c i sz) b):dU A b:=by
 obtain⟨off,d,e⟩:=h;unfold fE at e;split at e;·exact⟨_,d,e⟩
 .cases A with
  |none=>grind
  |some a=>
   simp at e;obtain⟨kW,f,g⟩:=a;have:kW=b:=by grind[we]
   subst this;exact⟨_,_,aa⟩
def take_at(B t)(A aJ)c2(msg bs)w(I:msg.length+bs.length<=70368744177664)(hst:Has w (iN t B A msg))(hb:bR w aJ bs)(hne:∀b off,aJ=ab ⟨b,off,af⟩->¬(iN t B A msg).c5 b):
 aD ax 241 #[ay (ab ⟨B,0,af⟩),ad aJ bs.length c2] w λe w'=>e=aA (bg #[])/\∃D,Turned w w' (iN t B A msg) (iN t B D (msg++bs)):=by
 have C:=hst.1.1;obtain⟨bZ,o⟩:=iN.split (aj.start hst);have hlen:=CM msg;obtain⟨ws,s⟩:=ex (iX msg).1;obtain⟨rs,r⟩:=ex (iX msg).2;rw[s,r]at o hlen;have v:=hid (And.intro s r);have m:=hid hlen;have E:=hid hb;have N:=hid I;obtain⟨u,z⟩:=ex (msg++bs).length;have S:msg.length+bs.length=u:=aF;have F:=hid z;clear z hb s r hst;go_enter func241,ntmps241;have a:=o;clear o;go_step;refine ag ?_;refine v3 ?_;refine pl a 0 9 ?_ (hv:=sA (k:=1) m.1 aa);refine v2 ?_;refine pad _ _ (u:Int) ?_;refine v2 ?_;refine a' a 0 (J _ _) (λw1 a=>?_) (hk:=KJ m.1 (of_decide_eq_true aa)) (hc:=KL (k:=1) m.1);refine an ?_;go_step;refine ag ?_;refine v4 ?_;refine pl a 0 8 ?_ (hv:=sA (k:=0) m.1 aa);refine ah ?_;refine ady a 1 (awd 1 aa aa aa (a.at 1) (bR.cells (E.out.only a.only hne)) Yh ae bh dI aS) (λM P T a=>?_);refine v2 ?_;refine a' a 0 (ad _ _ _) (λU a=>?_) (hk:=KJ m.1 (of_decide_eq_true aa)) (hc:=KL (k:=0) m.1);refine an ?_;rw[<-dv,<-gx]at a;have y:pH ws (rs++bs)=iX (msg++bs):=by rw[<-v.1,<-v.2];exact(XX _ _ bs).symm
 have O:=hid y;clear y;go_wp2_with fail;go_loopw [] (λwr=>∃(n l:List Int) (f:Option bU) (d:Nat),aE (n.length=8/\pH n l=iX (msg++bs))/\aj w (iN t B A msg).c5 wr [ai B (aX b' (n) [ad f l.length d,J R (u:Int)]) t,ww f l.length d 5 (l.map a8)]) (λwr=>T2 wr B);case atStart=>grind
 case round=>
  clear a;obtain⟨n,l,f,d,x,a⟩:=hrel;have g:=hid x.1;have Q:=eX.cap (a.at (t:=_) 1);by_cases p:64<=l.length
  .have G:(64:Int)<=(l.length:Int):=ae;have K:=ad9 (aW.cell (a.aZ 0) 8 (sA (k:=0) g aa));go_step;refine ag ?_;refine v3 ?_;refine pl a 0 8 ?_ (hv:=sA (k:=0) g aa);refine ah ?_;refine cb (ak aB) ?_;refine an ?_;go_step;refine ag ?_;refine v4 ?_;refine pl a 0 8 ?_ (hv:=sA (k:=0) g aa);refine aI (ad f 64 d) (qY 22 5 1 (bb 32) (qk (J R 64)) aa dI aS f _ d 64 aa aa ae) ?_;refine a6 (ak8 B t n _ _ f d (l.take 64) _ C g aF (bR.FH (eX.nV (a.at (t:=_) 1)).1 p) (λoff L e=>a.ne (i:=0) (j:=1) aa aa bh B aa ⟨_,L,e⟩) (a.aZ 0)) ?_;rintro e V ⟨rfl,H,hb⟩;replace a:=a.eF 0 (vq H hb);refine ba ?_;refine an ?_;go_step;refine ag ?_;refine v4 ?_;refine pl a 0 8 ?_ (hv:=sA (k:=0) (DZ g) aa);refine aI (ad (fE f d 64 1) (l.length -64) (d -64)) (Ud 22 5 1 (bb 39) (qk (J R 64)) aa dI aS f _ d 64 aa aa ae ae) ?_;refine v2 ?_;refine a' a 0 (ad _ _ _) (λW a=>?_) (hk:=KJ (DZ g) (of_decide_eq_true aa)) (hc:=KL (k:=0) (DZ g));refine an ?_;go_wp2_with fail;go_roundw
   case rel=>
    replace a:=a.as 1 aa (ww _ _ _ 5 _) (λh=>by have q:=eX.drop h p;rwa [<-vh,<-List.map_drop]at q) (λb hb=>S2 hb);grind[hid,DZ,KM]
   case measure=>rw[ad9 (aW.cell (a.aZ 0) 8 (sA (k:=0) (DZ g) aa)),K];omega
  .have G:¬(64:Int)<=(l.length:Int):=ae;go_step;refine ag ?_;refine v3 ?_;refine pl a 0 8 ?_ (hv:=sA (k:=0) g aa);refine ah ?_;refine cb (ak au) ?_;refine an ?_;go_wp2_with fail;first|go_end0|refine bodyPost_ret (results_none rfl _ _ _) rfl ?_
   have hz:=x.2;rw[KN p]at hz;refine⟨aa,f,aj.gi (iN.close (l:=[]) C (msg:=_) (c:=d) ?_) 0⟩;rw[<-hz,F];exact a
def aqy:yS.length=8:=rfl
def auT:iX []=(yS,[]):=by rw[iX,KN bh]
def aqq w:
 aD ax 240 #[] w λe w'=>e=aA (av (aX b' yS [ad af 0 0,J R 0]))/\aq w w':=by
 go_enter func240,ntmps240;have a:=bf w;go_step;refine ag ?_;refine bx a (aX b' (fq 8 0) _) (λb w1 a=>?_);refine ag ?_;refine pk (av (aX b' yS [])) ?_;refine pk (av (aX b' yS [ad af 0 0,J R 0])) ?_;refine MW a 0 (rB ..) aqy (λc a=>?_);refine an ?_;go_wp2_with fail;refine dn (v:=av (aX b' yS [ad af 0 0,J R 0])) (jd aa _ _ _ _ _ _ _ aa (a.aZ 0) Wb aa aS) aa (⟨aa,a.only⟩)
def Aw w:
 aD ax 162 #[] w λe w'=>∃B,e=aA (ay (ab ⟨B,0,af⟩))/\b3 w w' (ir B af []):=by
 go_enter func162,ntmps162;have a:=bf w;go_step;refine ag ?_;refine dQ ?_;refine bA (aqq _) a (λw1 a=>?_);refine pk (av (aX b' yS [ad af 0 0,J R 0])) ?_;refine bM a (av _) (λd f a=>?_);refine Ji ?_;exact⟨d,aa,(iN.close (t:=357) (msg:=[]) (A:=af) (c:=0) (l:=[]) bh (by rw[auT];exact((a.as 0 aa (both (ai d (aX b' yS [ad af 0 0,J R 0]) 357) (ww af 0 0 5 [])) (λh=>⟨h,eX.nil _ _ _,λ_ _ ⟨_,_,h⟩=>aF⟩) (λb hb=>hb.elim id (λ⟨_,_,h⟩=>aF))).fh))).fresh 0⟩
def al2(B t)A msg w(x:msg.length<=70368744177664)(hst:(iN t B A msg).p w):
 aD ax 242 #[ay (ab ⟨B,0,af⟩)] w λe w'=>∃m o,e=aA (av (aX b' (iX msg).1 [ad m (iX msg).2.length o,J R (msg.length:Int)]))/\b3 w w' (ww m (iX msg).2.length o 5 ((iX msg).2.map a8)):=by
 obtain⟨y,bZ,j,l⟩:=hst;have hlen:=CM msg;obtain⟨ws,i⟩:=ex (iX msg).1;obtain⟨rs,c⟩:=ex (iX msg).2;rw[i,c]at j hlen;rw[c]at l;have u:=hid (And.intro i c);have b:=hid hlen;have q:=hid (eX.nV l).1;have n:=hid j;rw[i,c];clear i c hlen l j;go_enter func242,ntmps242;have a:=bf w;go_step;refine ag ?_;refine bx a (aX b' (fq 8 0) _) (λr w1 a=>?_);refine ja ?_;refine aI (av (aX b' ws [ad A rs.length bZ,J R (msg.length:Int)])) (arb 354 (bb 5) aa B aa (ar.heap a.only n.out (λh=>h)) Wb aa (by rw[j7,b.1];rfl)) ?_;refine bx a (aX b' (fq 8 0) _) (λs z a=>?_);refine MW a 0 (rB ..) b.1 (λC a=>?_);refine jt ?_;refine aI (ad A rs.length bZ) (fy aa aa (ar.heap a.only n.out (λh=>h)) (sA (k:=0) b.out.1 aa) aw) ?_;refine a6 (wW A bZ rs _ (q.out.aH a.only) (by have:=b.out;omega)) ?_;rintro e D ⟨d,f,rfl,hrow,g⟩;replace a:=a.k8 g hrow;refine ba ?_;refine ah ?_;refine a' a 1 (ad d _ f) (λE a=>?_) (hk:=KJ b.1 (of_decide_eq_true aa)) (hc:=KL (k:=0) b.1);refine ag ?_;refine bq a 1 (aX b' ws [ad d rs.length f,J R (msg.length:Int)]) ?_ (hv:=(ee _)) (hk:=by omega) (hz:=(by rw[j7,b.1];rfl));refine MW a 2 (rB ..) b.1 (λF a=>?_);refine an ?_;go_wp2_with fail;refine dn (v:=_) (jd aa _ _ _ _ _ _ _ aa (a.aZ 2) Wb aa (by rw[j7,b.1];rfl)) aa (⟨d,f,aa,(a.as 0 aa (ww d _ f 5 _) eX.ofRow (λ_ h=>h)).fresh 0⟩)
def xj(n i:Nat):Int:=d'.wrap ((n:Int).fdiv (2^(8*i)))
def TJ(a:Nat):Nat:=(119 -a)%64
def vx(n:Nat)(r:Nat):List Int:=(dF (8 -r)).map (λj=>xj n (7 -j))
def anl{n i}(h:i<8):vx n i=vx n (i+1)++[xj n i]:=by unfold vx;rw[show 8 -i=(8 -(i+1))+1 by omega,pE,gx,jx,kC,show 7 -(8 -(i+1))=i by omega]
def rK(msg:List Int):List Int:=128::(fq (TJ (iX msg).2.length) 0++vx (msg.length*8) 0)
def ank msg:(rK msg).length=1+TJ (iX msg).2.length+8:=by grind[rK,vx]
def o8(W:List Int)(i:Nat):Int:=d'.wrap ((W[i/4]?.getD 0).fdiv (2^(24 -i%4*8)))
def yY(W:List Int):Nat->List Int
 |0=>fq 32 0
 |i+1=>(yY W i).set i (o8 W i)
def Fh W:∀q,(yY W q).length=32
 |0=>rB ..
 |q+1=>by rw[yY,wN];exact Fh W q
def ib(msg:List Int):List Int:=yY (iX (msg++rK msg)).1 32
theorem sI msg:(ib msg).length=32:=Fh _ _
def finish_at(B t)A msg w(hm:msg.length<=35184372088832)(hst:Has w (iN t B A msg)):
 aD ax 243 #[ay (ab ⟨B,0,af⟩)] w λe w'=>e=aA (av (aX a8 (ib msg) []))/\Turned w w' (iN t B A msg) emp:=by
 have ht:=hst.1.1;obtain⟨bZ,E⟩:=iN.split (aj.start hst);have hlen:=CM msg;obtain⟨ws,M⟩:=ex (iX msg).1;obtain⟨rs,s⟩:=ex (iX msg).2;rw[M,s]at E hlen;obtain⟨f,G⟩:=ex (TJ rs.length);have api:(119 -rs.length)%64=f:=G;have azp:f<64:=ae;obtain⟨d,H⟩:=ex msg.length;have uf:d<=35184372088832:=ae;have L:=ank msg;rw[s,G]at L;have Q:rK msg=128::(fq f 0++vx (d*8) 0):=by rw[rK,s,G,H]
 have D:=hid (And.intro M (And.intro s H));have N:=hid hlen;have azI:=hlen.2.1;have C:=hid (And.intro L Q);rw[H]at E;clear M s hlen H L Q G hst;go_enter func243,ntmps243;have a:=E;clear E;go_upto_region 0 with fail;refine cM ?_;refine bx a (aX a8 (fq 32 0) []) (λI w1 a=>?_);refine an ?_;have ap6:aG.wrap (d:Int)=(d:Int):=by simp[Dj,JF,Di];omega
 have ap4:aG.wrap ((d:Int)*8)=((d*8:Nat):Int):=by simp[Dj,JF,Di];omega
 go_upto_region 1 with fail;refine cM ?_;refine v3 ?_;refine pl a 1 9 ?_ (hv:=sA (k:=1) N.1 aa);refine aI (J aG (d:Int)) (by(show _=_;go_simp;try rw[ap6])) ?_;refine aI (J aG ((d*8:Nat):Int)) (by(show _=_;go_simp;try rw[ap4])) ?_;refine pk (J aG ((d*8:Nat):Int)) ?_;refine an ?_;go_upto_region 2 with fail;refine cM ?_;refine f' a #[J d' 128] 5 (λeO aR a=>?_);refine v3 ?_;refine pl a 2 8 ?_ (hv:=sA (k:=0) N.1 aa);refine ah ?_;refine mN 119 (rs.length:Int) ((119 -rs.length:Nat):Int) ?_;refine aI (J R ((f:Nat):Int)) (QS 3 (bb 20) (qk (J R 64)) 3 aa (119 -rs.length) 64 f aa aa bh api ae) ?_;replace a:=a.AQ 0 1 1 1 [a8 128] aa (cm _) bh aa;refine ady a 0 (akT 1 R (a8 0) aa aa aa (a.atR 0) ae bh dI j2 aw aa) (λX zU bL a=>?_);have dS:[a8 128]++fq f (a8 0)=(128::(fq f 0++vx (d*8) 8)).map a8:=by simp[vx]
 rw[dS]at a;clear dS;refine ah ?_;refine an ?_;go_upto_region 3 with fail;refine cM ?_;refine ah ?_;refine an ?_;go_wp2_with fail;go_loopw [4,5] (λev n wr=>∃(r z:Nat) (x:Int) (h:Option bU) (p:Nat),(r<=8/\z+r=8/\x+1=(r:Int))/\n=J R x/\ev=ad h (1+f+z) p/\aj w (iN t B A msg).c5 wr [bn h (1+f+z) p 5 1 ((128::(fq f 0++vx (d*8) r)).map a8),ai I (aX a8 (fq 32 0) []) 23,ai B (aX b' (ws) [ad A rs.length bZ,J R (d:Int)]) t,ww A rs.length bZ 5 (rs.map a8)]) (λ_ n _=>(cw n+1).toNat);case atStart=>exact⟨8,0,7,X,zU,ae,aa,aa,a⟩
 case round=>
  clear a;obtain⟨r,z,x,h,p,⟨apO,ab1,ao7⟩,rfl,rfl,a⟩:=hrel;obtain rfl|⟨i,rfl⟩:r=0\/∃i,r=i+1:=by cases r;exact bH aa;exact b1 ⟨_,aa⟩
  .obtain rfl:x=-1:=ae;obtain rfl:z=8:=ae;replace a:=iN.close (msg:=msg) (c:=bZ) ht (l:=[bn h (rK msg).length p 5 1 ((rK msg).map a8),ai I (aX a8 (fq 32 0) []) 23]) (by rw[D.out.1,D.out.2.1,D.out.2.2,C.out.1,C.out.2];exact a.pick [2,3,0,1]);have eM:aE (∀W,Has W (iN t B A msg)->bR W h (rK msg)->(∀b off,h=ab ⟨b,off,af⟩->¬(iN t B A msg).c5 b)->aD ax 241 #[ay (ab ⟨B,0,af⟩),ad h (1+f+8) p] W λe w'=>e=aA (bg #[])/\∃U,Turned W w' (iN t B A msg) (iN t B U (msg++rK msg))):=hid (λW h1 h2 h3=>by rw[<-C.1];exact take_at B t A h p msg (rK msg) W (by have:=C.1;have:=D.2.2;omega) h1 h2 h3);go_upto_region 7 with fail;refine cM ?_;refine v2 ?_;refine a6 (eM _ (a.has 0) (Row.nV (a.atR 1)).1 (λb off e=>a.ne (i:=1) (j:=0) aa aa bh b ⟨off,af,e⟩)) ?_;rintro e ca ⟨rfl,Y,bF⟩;replace a:=a.eF 0 bF;refine ba ?_;refine an ?_;obtain⟨oq,K⟩:=iN.split a;obtain⟨g,F⟩:=ex (iX (msg++rK msg)).1;have P:g.length=8:=by rw[<-F];exact(CM _).1
   rw[F]at K;replace a:=K.pk [0,3];have ajy:=hid P;have ajz:=hid F;clear P F K;obtain⟨aka,O⟩:=ex (ad Y (iX (msg++rK msg)).2.length oq);obtain⟨n9,S⟩:=ex (J R ((msg++rK msg).length:Int));rw[O,S]at a;clear O S;go_upto_region 8 with fail;refine cM ?_;refine bx a (aX a8 (yY g 0) []) (λZ cF a=>?_);refine an ?_;go_upto_region 9 with fail;refine cM ?_;refine ah ?_;refine an ?_;go_wp2_with fail;go_loopw [38] (λn wr=>∃q:Nat,q<=32/\n=J R q/\aj w (iN t B A msg).c5 wr [ai Z (aX a8 (yY g q) []) 23,ai B (aX b' (g) [aka,n9]) t,ai I (aX a8 (fq 32 0) []) 23]) (λn wr=>32 -(cw n).toNat);case atStart=>exact⟨0,ae,aa,a⟩
   case round=>
    clear a;obtain⟨q,hq,rfl,a⟩:=hrel;by_cases hlt:q<32
    .have cI:(q:Int)<32:=ae;obtain⟨oK,T⟩:=ex (q/4);have azT:oK<8:=ae;obtain⟨o,hr4⟩:=ex (q%4);have azH:o<4:=ae;obtain⟨y,Ie⟩:=ex (24 -o*8);have apQ:y<=32:=ae;go_upto_region 11 with fail;refine cM ?_;refine v2 ?_;refine an ?_;go_upto_region 12 with fail;refine cM ?_;refine v3 ?_;refine aI (J R (oK:Int)) (BC 3 (bb 43) (qk (J R 4)) 3 aa q 4 oK aa aa bh T ae) ?_;refine v2 ?_;refine mM ?_;refine pa a 1 ajy ?_;refine ah ?_;refine aI (J R (o:Int)) (QS 3 (bb 49) (qk (J R 4)) 3 aa q 4 o aa aa bh hr4 ae) ?_;refine II (o:Int) 8 ((o*8:Nat):Int) ?_;refine mN 24 ((o*8:Nat):Int) (y:Int) ?_;refine aI (b' ((g[oK]?.getD 0).fdiv (2^y))) (BD 315 (bb 48) (bb 52) 3 aa wj R _ y aa aa apQ) ?_;refine pk (a8 (d'.wrap ((g[oK]?.getD 0).fdiv (2^y)))) ?_;refine mM ?_;refine Fk a 0 (Fh ..) (λc6 a=>?_);refine an ?_;go_wp2_with fail;go_roundw;case rel=>exact⟨q+1,ae,by go_num,by rw[yY,o8,T,hr4,Ie];exact a.pick [0,1,2]⟩
     case measure=>simp[cw];omega
    .have aoX:ib msg=yY g q:=by rw[ib,ajz,show q=32 by omega]
     have cI:¬((q:Int)<32):=ae;go_upto_region 14 with fail;refine cM ?_;refine MZ a 0 (Fh ..) ?_;refine CH a 2 (rB ..) (Fh ..) (λdW a=>?_);refine an ?_;go_wp2_with fail;refine dn (v:=av (aX a8 (yY g q) [])) (jd aa _ _ _ _ _ _ _ aa (a.aZ 2) tq aa (by rw[j7,(Fh ..)];rfl)) aa (⟨by first|rfl|rw[aoX],a.dS.gi 0⟩)
  .obtain rfl:x=(i:Int):=ae;have Sd:8*i<=64:=ae;go_upto_region 6 with fail;refine cM ?_;refine v3 ?_;refine II 8 (i:Int) ((8*i:Nat):Int) ?_;refine aI (J aG (((d*8:Nat):Int).fdiv (2^(8*i)))) (BD 42 (bb 28) (bb 30) 3 aa aG R _ (8*i) aa aa Sd) ?_;refine pk (a8 (xj (d*8) i)) ?_;refine f' a #[a8 (xj (d*8) i)] 5 (λgQ dG a=>?_);refine nt (m:=1) a 1 1 (aW.cellsOf (m:=1) (a.aZ 0) aa) (by intro u hu;rw[vi.1 hu];rfl) (λV KY e8 a=>?_);refine ah ?_;refine an ?_;go_upto_region 5 with fail;refine cM ?_;refine ah ?_;refine mN (i:Int) 1 ((i:Int) -1) ?_;refine ah ?_;refine an ?_;go_wp2_with fail;go_roundw;case rel=>exact⟨i,z+1,(i:Int) -1,V,KY,ae,by go_num,aa,by rw[anl ae,show(128::(fq f 0++(vx (d*8) (i+1)++[xj (d*8) i]))).map a8=((128::(fq f 0++vx (d*8) (i+1))).map a8++([a8 (xj (d*8) i)])) by simp];exact a.pick [1,2,3,4]⟩
   case measure=>simp[cw]<;>omega
attribute [irreducible] ib rK
theorem avq(B t)A msg w(l:msg.length<=35184372088832)(hst:(iN t B A msg).p w)(c:∀b,(iN t B A msg).c5 b->b<w.heap.size):
 aD ax 164 #[ay (ab ⟨B,0,af⟩)] w λe w'=>e=aA (av (aX a8 (ib msg) []))/\aq w w':=by
 have i:=hid (λW (g:aq w W)=>br.only _ hst c g (λ_ _ h=>h));clear hst c;go_enter func164,ntmps164;have a:=bf w;go_step;refine ag ?_;refine bx a (aX a8 (fq 32 0) []) (λm w1 a=>?_);refine ag ?_;refine v2 ?_;refine jt ?_;refine a6 (al2 B t A msg _ ae (i.out _ a.only)) ?_;rintro e o ⟨d,n,rfl,k⟩;replace a:=a.new _ k;refine ba ?_;refine bx a (aX b' (fq 8 0) _) (λf q a=>?_);refine MW a 0 (rB ..) (CM _).1 (λr a=>?_);refine an ?_;replace a:=iN.close (t:=_) bh a;refine ag ?_;refine a6 (finish_at f 354 d msg _ l (a.has 0)) ?_;rintro e s ⟨rfl,j⟩;replace a:=a.eF 0 j;refine ba ?_;refine CH a 1 (rB ..) (sI _) (λu a=>?_);refine an ?_;go_wp2_with fail;refine dn (v:=_) (jd aa _ _ _ _ _ _ _ aa (a.aZ 1) tq aa (by rw[j7,(sI _)];rfl)) aa (⟨aa,a.only⟩)
theorem iN.low{w t B A msg}(h:(iN t B A msg).p w):∀b,(iN t B A msg).c5 b->b<w.heap.size:=λb hb=>by
 obtain⟨_,c,h1,a⟩:=h;rcases hb with rfl|hb;·grind
 .exact(eX.lt a hb).2
def y6 B A msg w(a:msg.length<=35184372088832)(h:(ir B A msg).p w):
 aD ax 164 #[ay (ab ⟨B,0,af⟩)] w λe w'=>e=aA (av (aX a8 (ib msg) []))/\aq w w':=by grind[avq,iN.low]
def afQ(B o l D)(A aJ)c2(msg bs)w(G:msg.length+bs.length<=70368744177664)(hst:Has w (ir B A msg))(hcell:w.cell? ⟨o,l,af⟩=ab (ad aJ bs.length c2))(hb:bR w aJ bs)(hne:∀b off,aJ=ab ⟨b,off,af⟩->¬(ir B A msg).c5 b):
 aD ax 163 #[ay (ab ⟨B,0,af⟩),ad (ab ⟨o,l,af⟩) 1 D] w λe w'=>∃d,e=aA (J R (bs.length:Int))/\Turned w w' (ir B A msg) (ir B d (msg++bs)):=by
 have v:=hid hcell;have s:=hid hb;have z:=hid hne;obtain⟨f,p⟩:=ex ((msg.length:Int));have M:0<=f/\f<=70368744177664:=ae;obtain⟨K,r⟩:=ex (((msg++bs).length:Int));have E:K -f=(bs.length:Int):=aF;have C:=hid r;have y:=hid p;clear hcell hb hne r p;go_enter func163,ntmps163;have a:=aj.start hst;go_upto_region 0 with fail;refine cM ?_;refine ah ?_;refine ag ?_;refine dP ?_;obtain⟨_,bZ,c,_⟩:=a.at (t:=iN 357 B _ _) 0;rw[y]at c;refine oM ?_;refine aI (J R f) (fy aa aa c (sA (k:=1) (CM msg).1 aa) aw) ?_;refine bP ?_;clear c;refine ag ?_;refine v3 ?_;refine an ?_;go_wp2_with fail;go_loopw [17] (λi wr=>∃(q:Nat) (d:Option bU) (j:List Int),q<=1/\i=J R q/\aE (q=0/\d=A/\j=msg/\wr=w\/q=1/\j=msg++bs)/\aj w (ir B A msg).c5 wr [ir B d j]) (λi _=>1 -(cw i).toNat);case atStart=>grind[hid]
 case round=>
  clear a;obtain⟨q,m,I,N,rfl,n,a⟩:=hrel;by_cases hlt:q<1
  .have H:(q:Int)<1:=ae;obtain⟨rfl,rfl,rfl,g⟩:=n.out.resolve_right (λh=>ae);have x:=hid (g.symm▸v.out);have u:=hid (g.symm▸s.out);clear g;go_upto_region 6 with fail;refine cM ?_;refine aI _ (cH 193 22 1 _ _ aa Tryz.underlying193 aw _ _ _ _ _ l aa aa bh ae) ?_;refine aI _ (nr aa aa x aw) ?_;refine AV ?_;refine a6 (take_at B 357 m aJ c2 I bs _ G (a.has 0) u.out z.out) ?_;rintro e w1 ⟨rfl,L,F⟩;replace a:=a.eF 0 F;refine AU ?_;go_wp2_with fail;go_roundw;case rel=>grind[hid]
   case measure=>grind[cw]
  .have H:¬(q:Int)<1:=ae;obtain⟨rfl,rfl⟩:=n.out.resolve_left (λh=>ae);obtain⟨_,bZ,c,_⟩:=a.at (t:=iN 357 B _ _) 0;rw[C]at c;go_upto_region 9 with fail;refine cM ?_;refine v4 ?_;refine aI _ (fy aa aa c (sA (k:=1) (CM _).1 aa) aw) ?_;refine ah ?_;refine aI _ (pK 3 _ _ 3 aa _ _ _ aa aa E ae ae) ?_;refine bP ?_;go_wp2_with fail;go_ret;exact⟨aa,m,a.gi 0⟩
def Uy(B a c d)(A aJ)c2(msg bs)w(g:msg.length+bs.length<=70368744177664)(hst:Has w (ir B A msg))(hcell:w.cell? ⟨a,c,af⟩=ab (ad aJ bs.length c2))(hb:bR w aJ bs)(hne:∀b,dU aJ b->¬(ir B A msg).c5 b):
 aD ax 163 #[ay (ab ⟨B,0,af⟩),ad (ab ⟨a,c,af⟩) 1 d] w λe w'=>∃f,e=aA (J R (bs.length:Int))/\Turned w w' (ir B A msg) (ir B f (msg++bs)):=afQ B a c d A aJ c2 msg bs w g hst hcell hb λb off e=>hne b ⟨off,af,e⟩
def aeJ(c d g)aJ c2 bs w(p:bs.length<=35184372088832)(hcell:w.cell? ⟨c,d,af⟩=ab (ad aJ bs.length c2))(hb:bR w aJ bs)(i:∀b off,aJ=ab ⟨b,off,af⟩->b<w.heap.size):
 aD ax 76 #[ad (ab ⟨c,d,af⟩) 1 g] w λe w'=>e=aA (av (aX a8 (ib bs) []))/\aq w w':=by
 have l:=hid hb;have m:=hid hcell;have k:=hid i;have hl2:=p;clear hcell hb i;go_enter func76,ntmps76;have a:=bf w;go_step;refine ag ?_;refine bx a (aX a8 (fq 32 0) []) (λq w1 a=>?_);refine ag ?_;refine a6 (Aw _) ?_;rintro e s ⟨f,rfl,o⟩;replace a:=a.new _ o;refine ba ?_;refine ku ?_;refine a6 (afQ f c d g af aJ c2 [] bs _ aF (a.has 0) (a.only.cell m.out (λh=>h)) (l.out.aH a.only) (λb off e h=>(a.low _ (sx ..) _ h).2.elim (λr=>absurd (k.out b off e) ae) id)) ?_;rintro e t ⟨j,rfl,n⟩;replace a:=a.eF 0 n;refine ba ?_;refine b4 ?_;refine bA (y6 f j bs _ ae (a.at 0)) a (λu a=>?_);refine CH a 1 (rB ..) (sI bs) (λx a=>?_);refine an ?_;go_wp2_with fail;refine dn (v:=_) (jd aa _ _ _ _ _ _ _ aa (a.aZ 1) tq aa (by rw[j7,(sI bs)];rfl)) aa (⟨aa,a.only⟩)
section
section
variable {P:eu} {o:cR} {a:bT} {w:aM}
def aeR (t e sz:Nat) (x hi b) (d:o.op=.slice t x af (ab hi) (ab b)) (f:P.underlying t=ab (hT e)) (g:(P.info? e).map (·.size)=ab sz) A (n c q m:Nat)
 (hx:a.eval x=ad A n c) (yE:a.eval hi=J R (q:Int)) (hmx:a.eval b=J R (m:Int)) (h1:q<=m) (h2:m<=c):
 (bt a.eval o).run P w=a7 (c8 (ad A q m)) w:=by
 cases hq:P.info? e with
 |none=>grind
 |some h=>
  unfold bt;simp[d,hx,yE,hmx,Instr.sliceAt,Instr.slice,Instr.sliceBounds,Instr.sliceBound,asIntOf,gj,gF f,mu,typeInfo,hq,h1,h2];intro _;cases A<;>simp[we]
def aum w N (t ty e) i z (d:P.underlying t=ab (hT e)) (hi:P.info? e=ab i) (hz:i.zero=ab z) (hsize:i.size=1) (hzs:z.cells.size=1)
 A n xs (hx:Cells w 1 A n xs) aJ (m c2) news (hr:Cells w 1 aJ m news) (h1:∀u∈news,u.oneCell'=aB) (hm:0<m)
 (h63:n+m<=dN) (hbytes:(n+m)*i.bytes<=140737488355328) (fk:N<=w.heap.size):
 ∃B c w',(Builtin.append_ #[t,t] ty #[ad A n n,ad aJ m c2]).run P w=a7 (ad (ab ⟨B,0,af⟩) (n+m) c) w'/\Row N w' (ab ⟨B,0,af⟩) (n+m) c e 1 (xs++news)/\aq w w'/\w.heap.size<=B:=by
 have hlx:=by simpa using hx.1
 have j:=by simpa using hr.1
 obtain⟨a,rfl,hnews⟩:=hr.2 hm;have h:Src P i.size t (ad (ab a) m c2) m news w:=Src.ofSlice w d a m c2 news aF hnews h1
 have hold:(Builtin.firstCells i.size n (ad A n n)).run P w.drew=a7 xs.toArray w.drew:=by
  rw[hsize];rcases lJ n with b|b
  .subst b;obtain rfl:=jH hlx;cases A with
   |none=>rfl
   |some a=>rfl
  .obtain⟨a,rfl,hc⟩:=hx.2 b;exact run_firstCells_some _ 1 n a n n xs ae hc
 have hrun:=run_append_grow_src (P:=P) w t t ty e i z d hi hz A n n xs hold _ m news h ae (by grind[dN]) (growslice_fits ae hbytes);have f:=grownCap_ge w (n+m) n e;have g:=grownCap_le_maxLen w _ n e h63;refine⟨_,_,_,hrun,⟨aF,b1 ⟨_,_,_,aa,fk,fe _ _,f,g,?_,?_⟩⟩,aq.trans (ar.drew _) (ar.alloc _ _),cm _⟩;·grind[Builtin.zeroCells]
 .grind
def akA {s x} {t e n m c2:Nat} {A aJ xs news} bytes (j:o.op=mU {callee:=n2 .append,args:=#[s,x],argTypes:=#[t,t]}) (k:a.eval s=ad A n n) (hx:a.eval x=ad aJ m c2) (hown:Cells w 1 A n xs) (hr:Cells w 1 aJ m news) (h1:∀u∈news,u.oneCell'=aB) (h:0<m) (hbytes:(n+m)*bytes<=140737488355328) (hb0:0<bytes) (l:P.underlying t=ab (hT e))
 (kZ:(P.info? e).map (λi=>(i.zero.isSome,(i.zero.map (·.cells.size)).getD 0,i.size,i.bytes))=ab (aB,1,1,bytes)):
 ∃c b w',(bt a.eval o).run P w=a7 (c8 (ad c (n+m) b)) w'/\b3 w w' (bn c (n+m) b e 1 (xs++news)):=by
 cases hq:P.info? e with
 |none=>grind
 |some i=>
  rw[hq]at kZ;simp only[oW,wQ,oh]at kZ;obtain⟨bB,b7,d,f⟩:=kZ;obtain⟨z,hz⟩:=Option.isSome_iff_exists.1 bB;rw[hz]at b7;simp only[oW,pG]at b7;subst f;have hle:(n+m)<=(n+m)*i.bytes:=zI _ hb0;obtain⟨B,b,w',hrun,h1,g,p⟩:=aum (P:=P) w w.heap.size t o.type e i z l hq hz d b7 A n xs hown aJ m c2 news hr h1 h (by grind[dN]) hbytes (cm _);refine⟨_,b,w',?_,b3.ac7 g h1⟩;unfold bt;simp only[j,mX,mW,pv,gj,jR,ji,og,jx,kC,k,hx,hrun]
def asR {ops:Array cR} {rest:List cR} {Q:Exit->bT->aM->Prop} {ao:aM} {FX:Nat->Prop} {l:List br} {d:Option bU->Nat->bT} {b:Option bU->Nat->aO} {t:Option bU->Nat->br} (e:aj ao FX w l) (hr:∃A c w',(bt a.eval o).run P w=a7 (c8 (b A c)) w'/\b3 w w' (t A c)) (h:∀A c w',aj ao FX w' (t A c::l)->cG P ops Q rest (d A c) w')
 (hw:c4 o (yielded ops a.tmps)=true:=by kernel_rfl) (ha:∀A c,a.put o.dst (b A c)=d A c:=by(intro _ _;(try simp only[Act.put,List.setIfInBounds_toArray,List.set_cons_zero,List.set_cons_succ]);rfl)):cG P ops Q (o::rest) a w:=by
 obtain⟨A,c,w',h1,f⟩:=hr;refine wpList_step λK g=>?_;rw[if_pos hw];unfold Oper.wp;rw[h1];show K _ _;rw[ha];exact g _ _ (h A c w' (e.new _ f))
def aqB(t e sz m:Nat)(x c)j(f:o.op=Dk t x c)(g:P.underlying t=ab (wz m e))(p:(P.info? e).map (·.size)=ab sz)(b off i k:Nat)(hx:a.eval x=ay (ab ⟨b,off,af⟩))(hi:a.eval c=J j (i:Int))(h:i<m)(hk:off+i*sz=k):
 (bt a.eval o).run P w=a7 (c8 (ay (ab ⟨b,k,af⟩))) w:=by
 cases hq:P.info? e with
 |none=>grind
 |some l=>
  have hsz:l.size=sz:=aF;subst hk;have d:(⟨b,off,_⟩:bU).add (i*sz)=⟨b,_,_⟩:=Addr.add_mid _ _ _;unfold bt;simp[f,hx,hi,Instr.indexAt,Instr.sureAddr,asIntOf,gj,gF g,mu,typeInfo,hq,hsz,d];intro n;omega
def adw {ops:Array cR} {rest:List cR} {Q:Exit->bT->aM->Prop} {d:bT} (h:cG P ops Q rest d w) {f:IntKind} {t e m b i:Nat} {x c:Operand} (j:o.op=Dk t x c:=by rfl) (l:P.underlying t=ab (wz m e):=by rfl) (k:(P.info? e).map (·.size)=ab 1:=by kernel_rfl) (hx:a.eval x=ay (ab ⟨b,0,af⟩):=by rfl) (hi:a.eval c=J f (i:Int):=by rfl) (g:i<m:=by omega) (n:c4 o (yielded ops a.tmps)=true:=by kernel_rfl)
 (ha:a.put o.dst (ay (ab ⟨b,i,af⟩))=d:=by((try simp only[Act.put,List.setIfInBounds_toArray,List.set_cons_zero,List.set_cons_succ]);rfl)):cG P ops Q (o::rest) a w:=ah h n (aqB t e 1 m x c f j l k b 0 i i hx hi g ae) ha
end
end
def acT(x:Int):Int:=wj.wrap (0 -x)
def Fb(x:Int):Int:=kt 4294967295 x
def Cz(x:Int):Nat:=(nw 32 x&&& nw 32 15).toNat
theorem Ts x:Cz x<16:=by grind[Cz,Nat.and_le_right]
def acS x:n32 x 15=((Cz x:Nat):Int):=by grind[Ts,n32,Cz,Dj,Di]
def al9(x:Int):Int:=kt (kb x 1) (n32 3988292384 (acT (n32 x 1)))
def BK(x:Int):Nat->Int
 |0=>x
 |i+1=>al9 (BK x i)
def y7:Nat->List Int
 |0=>fq 16 0
 |i+1=>(y7 i).set i (BK (j8 (i:Int)) 4)
def Ui:∀q,(y7 q).length=16
 |0=>rB ..
 |q+1=>by rw[y7,wN];exact Ui q
def zV:List Int:=y7 16
def D7:zV.length=16:=Ui 16
def ama{q}(h:q=16):y7 q=zV:=by rw[h];rfl
attribute [irreducible] zV
def avu w:
 aD ax 357 #[] w λe w'=>e=aA (av (aX b' zV []))/\aq w w':=by
 go_enter func357,ntmps357;have a:=bf w;go_upto_region 0 with fail;refine cM ?_;refine bx a (aX b' (fq 16 0) []) (λd w1 a=>?_);refine ag ?_;refine bx a (aX b' (y7 0) []) (λf r a=>?_);refine ag ?_;refine ah ?_;refine an ?_;go_wp2_with fail;go_loopw [4] (λb wr=>∃q:Nat,q<=16/\b=J R q/\aj w (λ_=>False) wr [ai f (aX b' (y7 q) []) 434,ai d (aX b' (fq 16 0) []) 434]) (λb wr=>16 -(cw b).toNat);case atStart=>grind
 case round=>
  clear a;obtain⟨q,o,rfl,a⟩:=hrel;by_cases hlt:q<16
  .have l:(q:Int)<16:=ae;go_upto_region 4 with fail;refine cM ?_;refine C4 ?_;refine pk (b' (j8 (q:Int))) ?_;refine ah ?_;refine ag ?_;refine ah ?_;refine an ?_;go_wp2_with fail;go_loopw [3,9] (λh c wr=>∃j:Nat,j<=4/\c=J R j/\aE (h=b' (BK (j8 (q:Int)) j))/\aj w (λ_=>False) wr [ai f (aX b' (y7 q) []) 434,ai d (aX b' (fq 16 0) []) 434]) (λh c wr=>4 -(cw c).toNat);case atStart=>exact⟨0,ae,aa,hid aa,a⟩
   case round=>
    clear a;obtain⟨j,m,rfl,i,a⟩:=hrel;obtain rfl:=i.out;by_cases n:j<4
    .have k:(j:Int)<4:=ae;go_upto_region 8 with fail;refine cM ?_;refine ah ?_;refine pk (b' (kb (BK (j8 (q:Int)) j) 1)) ?_;refine ah ?_;refine pu ?_;refine pk (b' (acT (n32 (BK (j8 (q:Int)) j) 1))) ?_;iterate 2 refine pu ?_
     refine dQ ?_;refine pad (j:Int) 1 ((j+1:Nat):Int) ?_;refine bP ?_;go_wp2_with fail;go_roundw;case rel=>exact⟨j+1,ae,aa,hid aa,a⟩
     case measure=>simp[cw]<;>omega
    .have k:¬(j:Int)<4:=ae;obtain⟨oK,g⟩:=ex (BK (j8 (q:Int)) j);have p:BK (j8 (q:Int)) 4=oK:=by rw[<-g,show j=4 by omega]
     rw[g];go_upto_region 10 with fail;refine cM ?_;refine v2 ?_;refine mM ?_;refine Fk a 0 (Ui ..) (λs a=>?_);refine an ?_;go_wp2_with fail;go_roundw;case rel=>exact⟨q+1,ae,by go_num,by grind[y7]⟩
     case measure=>grind[cw]
  .have l:¬(q:Int)<16:=ae;rw[ama (show q=16 by omega)]at a;go_upto_region 12 with fail;refine cM ?_;refine MZ a 0 D7 ?_;refine CH a 1 (rB ..) D7 (λt a=>?_);refine an ?_;go_wp2_with fail;refine dn (v:=_) (jd aa _ _ _ _ _ _ _ aa (a.aZ 1) underlying434 aa (by rw[j7,D7];rfl)) aa (⟨aa,a.only⟩)
def K6(r:Int):Int:=kt (kb r 4) (zV[Cz r]?.getD 0)
def YP(r c:Int):Int:=K6 (K6 (kt r (j8 c)))
def K7(r:Int)(bs:List Int):Nat->Int
 |0=>r
 |i+1=>YP (K7 r bs i) (bs[i]?.getD 0)
def Rf(s:Int)(bs:List Int):Int:=Fb (K7 (Fb s) bs bs.length)
def G'(bs:List Int):Int:=Rf 0 bs
def anI s(o i C)aJ c2 bs w(O:bs.length<=35184372088832)(hcell:w.cell? ⟨o,i,af⟩=ab (ad aJ bs.length c2))(hb:bR w aJ bs):
 aD ax 323 #[b' s,ad (ab ⟨o,i,af⟩) 1 C] w λe w'=>e=aA (b' (Rf s bs))/\aq w w':=by
 have z:=hid hb;have l:=hid hcell;obtain⟨fT,hbl⟩:=ex bs.length;have I:fT<=35184372088832:=ae;rw[hbl]at l;have d:=hid hbl;clear hcell hb hbl;go_enter func323,ntmps323;have a:=bf w;go_upto_region 0 with fail;refine cM ?_;refine dQ ?_;refine bA (avu _) a (λw1 a=>?_);refine bx a (aX b' (fq 16 0) []) (λk Q a=>?_);refine CH a 0 (rB ..) D7 (λS a=>?_);refine b4 ?_;refine pk (b' (Fb s)) ?_;refine ah ?_;refine ag ?_;refine v3 ?_;refine an ?_;go_wp2_with fail;go_loopw [6,16] (λv f wr=>∃q:Nat,q<=1/\f=J R q/\∃r,v=b' r/\aE (q=0/\r=Fb s\/q=1/\Fb r=Rf s bs)/\aj w (λ_=>False) wr [ai k (aX b' (zV) []) 434]) (λv f wr=>1 -(cw f).toNat);case atStart=>grind[hid]
 case round=>
  clear a;obtain⟨q,P,rfl,r,rfl,m,a⟩:=hrel;by_cases hlt:q<1
  .have F:(q:Int)<1:=ae;obtain⟨rfl,t⟩:=m.out.resolve_right (λh=>ae);have B:=hid t;clear t;go_upto_region 5 with fail;refine cM ?_;refine aI _ (cH _ 22 1 _ _ aa Tryz.underlying193 aw _ _ _ _ _ i aa aa bh ae) ?_;refine M1 l a.only ?_;refine ah ?_;refine ag ?_;refine v3 ?_;refine an ?_;go_wp2_with fail;go_loopw [6,22] (λx g wr=>∃j:Nat,j<=fT/\g=J R j/\∃b,x=b' b/\aE (b=K7 r bs j)/\aj w (λ_=>False) wr [ai k (aX b' (zV) []) 434]) (λx g wr=>fT -(cw g).toNat);case atStart=>exact⟨0,ae,aa,_,aa,hid aa,a⟩
   case round=>
    clear a;obtain⟨j,N,rfl,b,rfl,n,a⟩:=hrel;by_cases p:j<fT
    .have E:(j:Int)<(fT:Int):=ae;obtain⟨H,G,rfl,D⟩:=z (by rw[d];omega);obtain⟨c,hc⟩:=ex (bs[j]?.getD 0);have y:=D j (by rw[d];exact p);rw[hc]at y;have A:=hid hc;clear hc;go_upto_region 8 with fail;refine cM ?_;refine aI _ (cH 22 5 1 _ _ aa dI aw _ _ _ _ _ ((G+j)) aa aa p ae) ?_;refine M1 y a.only ?_;refine ku ?_;refine pk (b' (j8 c)) ?_;refine pu ?_;refine bP ?_;obtain⟨dc,hx1⟩:=ex (Cz (kt b (j8 c)));have K:dc<16:=by rw[<-hx1];exact Ts _
     refine b4 ?_;refine pk (b' (kb (kt b (j8 c)) 4)) ?_;refine ah ?_;refine aI (J wj (dc:Int)) (by(rw[<-hx1,<-acS];show _=_;kernel_rfl)) ?_;refine adw ?_;refine pa a 0 D7 ?_;refine pu ?_;refine bP ?_;obtain⟨u,hr2⟩:=ex (kt (kb (kt b (j8 c)) 4) (zV[dc]?.getD 0));rw[hr2];obtain⟨bm,hx2⟩:=ex (Cz u);have L:bm<16:=by rw[<-hx2];exact Ts _
     refine b4 ?_;refine pk (b' (kb u 4)) ?_;refine ah ?_;refine aI (J wj (bm:Int)) (by(rw[<-hx2,<-acS];show _=_;kernel_rfl)) ?_;refine adw ?_;refine pa a 0 D7 ?_;refine pu ?_;refine dQ ?_;refine pad (j:Int) 1 ((j+1:Nat):Int) ?_;refine bP ?_;go_wp2_with fail;go_roundw;case rel=>exact⟨j+1,ae,aa,_,aa,hid (by rw[K7,YP,A,<-n,K6,K6,hx1,hr2,hx2]),a⟩
     case measure=>simp[cw]<;>omega
    .have E:¬(j:Int)<(fT:Int):=ae;go_upto_region 13 with fail;refine cM ?_;refine pad 0 1 ((1:Nat):Int) ?_;refine bP ?_;go_wp2_with fail;go_roundw;case rel=>exact⟨1,ae,aa,_,aa,hid (b1 ⟨aa,by rw[n,show j=bs.length by rw[d];omega,B];rfl⟩),a⟩
     case measure=>simp[cw]<;>omega
  .have F:¬(q:Int)<1:=ae;have M:=(m.out.resolve_left (λh=>ae)).2;go_upto_region 14 with fail;refine cM ?_;refine ah ?_;refine pk (b' (Fb r)) ?_;refine bP ?_;go_wp2_with fail;go_ret;exact⟨aS,a.only⟩
def YQ(b c d)aJ c2 bs w(f:bs.length<=35184372088832)(hcell:w.cell? ⟨b,c,af⟩=ab (ad aJ bs.length c2))(hb:bR w aJ bs):
 aD ax 284 #[ad (ab ⟨b,c,af⟩) 1 d] w λe w'=>e=aA (b' (G' bs))/\aq w w':=by
 go_enter func284,ntmps284;have a:=bf w;go_step;refine ag ?_;refine cJ ?_;refine bA (anI 0 b c d aJ c2 bs _ f hcell hb) a (λw1 a=>?_);refine bP ?_;go_wp2_with fail;go_ret;exact⟨aa,a.only⟩
def yi(s:Int)(i:Nat):Int:=d'.wrap (s.fdiv (2^(8*i)))
def alh s:yi s 0=d'.wrap s:=by simp[yi]
def K8(s:Int):List Int:=[yi s 0,yi s 1,yi s 2,yi s 3]
def AJ(bs:List Int):List Int:=bs++K8 (G' bs)
def aez bs:(AJ bs).length=bs.length+4:=by simp[AJ,K8]
def auM A c bs w(p:bs.length<=17592186044416)(hc:bs.length<=c)(hb:bR w A bs):
 aD ax 325 #[ad A bs.length c] w λe w'=>∃d g,e=aA (ad d (AJ bs).length g)/\e2 w.heap.size w' d g (AJ bs)/\aq w w':=by
 have f:=hid hb;obtain⟨s,b⟩:=ex (G' bs);have j:=hid b;have h:=hid (YQ (bs:=bs));rw[b]at h;clear b hb;go_enter func325,ntmps325;have a:=bf w;go_step;refine ag ?_;refine cJ ?_;refine f' a #[ad A bs.length c] 22 (λn w1 a=>?_);refine bA (h _ 0 1 A c _ ae ((a.aZ 0).cell 0 aa) (f.out.aH a.only)) a (λq a=>?_);refine ah ?_;refine ag ?_;refine v5 ?_;refine aI _ (aeR 22 5 1 _ _ _ aa dI aw A _ c _ _ aa aa aa (cm _) hc) ?_;refine ah ?_;refine pk (a8 (d'.wrap s)) ?_;refine ah ?_;refine pk (b' (kb s 8)) ?_;refine pk (a8 (d'.wrap (kb s 8))) ?_;refine ah ?_;refine pk (b' (kb s 16)) ?_;refine pk (a8 (d'.wrap (kb s 16))) ?_;refine ah ?_;refine pk (b' (kb s 24)) ?_;refine pk (a8 (d'.wrap (kb s 24))) ?_;refine f' a #[a8 (d'.wrap s),a8 (d'.wrap (kb s 8)),a8 (d'.wrap (kb s 16)),a8 (d'.wrap (kb s 24))] 5 (λsf r a=>?_);refine asR a (akA 1 aa aa aa (bR.cells (f.out.aH a.only)) (aW.cellsOf (m:=4) (a.aZ 0) aa) (by intro u i;simp at i;rcases i with rfl|rfl|rfl|rfl<;>rfl) bh ae bh dI aw) (λl o t a=>?_);refine bP ?_;go_wp2_with fail;go_ret;have k:bs.map a8++[a8 (d'.wrap s),a8 (d'.wrap (kb s 8)),a8 (d'.wrap (kb s 16)),a8 (d'.wrap (kb s 24))]=(AJ bs).map a8:=by rw[AJ,j,K8,alh,gx];rfl
 rw[k,<-aez]at a;exact⟨_,_,by rw[aez];rfl,Row.nV (a.fresh 0).row,a.only⟩
def sZ(bs:List Int):Option (List Int):=if 4<=bs.length/\∀i,i<4->bs[bs.length -4+i]?.getD 0=yi (G' (bs.take (bs.length -4))) i then ab (bs.take (bs.length -4))else af
def asn A c bs w(Y:bs.length<=17592186044416)(hc:bs.length<=c)(hb:bR w A bs):
 aD ax 213 #[ad A bs.length c] w λe w'=>(∃d t B,sZ bs=ab d/\e=aA (bg #[ad t d.length B,ak aB])/\e2 w.heap.size w' t B d/\aq w w')\/(sZ bs=af/\e=aA (bg #[ad af 0 0,ak au])/\aq w w'):=by
 have L:=hid hb;by_cases P:4<=bs.length
 .obtain⟨n,G⟩:∃n,bs.length=n+4:=⟨bs.length -4,ae⟩;obtain⟨g,f,rfl,E⟩:=hb ae;have M:=hid E;have x:=hid G;have X:n+4<=c:=ae;have Md:fE (ab ⟨g,f,af⟩) c n 1=ab ⟨g,f+n,af⟩:=by grind[fE,nG]
  have H:(bs.take n).length=n:=aF;have y:=hid (bR.FH L (show n<=bs.length by omega));have l:=hid H;obtain⟨s,p⟩:=ex (G' (bs.take n));have z:=hid p;have Q:aE (∀o W,W.cell? ⟨o,0,af⟩=ab (ad (ab ⟨g,f,af⟩) n c)->bR W (ab ⟨g,f,af⟩) (bs.take n)->aD ax 284 _ W λe w'=>e=aA (b' s)/\aq W w'):=hid (λo W h1 k=>by rw[<-p];exact YQ o 0 1 _ c _ W ae aF k);rw[G];clear E p hb H;go_enter Tryz.func213,Tryz.ntmps213;have a:=bf w;go_upto_region 0 with fail;refine cM ?_;refine v2 ?_;refine ja ?_;refine mN ((n+4:Nat):Int) 4 ((n:Nat):Int) ?_;refine ah ?_;refine ag ?_;refine v2 ?_;refine ja ?_;refine aI (ad (ab ⟨g,f,af⟩) n c) (qY 22 5 1 (bb 13) (bb 14) aa dI aw (ab ⟨g,f,af⟩) (n+4) c n aa aa ae) ?_;refine f' a #[ad (ab ⟨g,f,af⟩) n c] 22 (λU w1 a=>?_);refine bA (Q.out _ _ ((a.aZ 0).cell 0 aa) (y.out.aH a.only)) a (λaR a=>?_);refine bP ?_;have T:ad (ab ⟨g,(f+n),af⟩) 4 (c -n)=ad (fE (ab ⟨g,f,af⟩) c n 1) ((n+4) -n) (c -n):=aF;refine ja ?_;refine aI (ad (ab ⟨g,(f+n),af⟩) 4 (c -n)) (by(rw[T];exact Ud 22 5 1 _ _ aa dI aw _ _ c n aa aa ae ae)) ?_;refine dP ?_;have N:=a.only;go_wp2_with fail;go_loopw [22] (λr wr=>∃q:Nat,q<=4/\r=J R q/\aE (∀i,i<q->bs[n+i]?.getD 0=yi s i)/\aj w (λ_=>False) wr []) (λr wr=>4 -(cw r).toNat);case atStart=>exact⟨0,ae,aa,hid (λi hi=>absurd hi ae),a.drop 0⟩
  case round=>
   clear a N;obtain⟨q,hq,rfl,u,a⟩:=hrel;by_cases hlt:q<4
   .have Z:(q:Int)<4:=ae;have I:=M (n+q) ae;obtain⟨b,hb⟩:=ex (bs[n+q]?.getD 0);rw[hb,<-Nat.add_assoc]at I;have v:=hid hb;clear hb;obtain⟨d,F⟩:=ex (yi s q);have j:=hid F;have C:8*q<=32:=ae;clear F;go_upto_region 7 with fail;refine cM ?_;refine ah ?_;refine aI _ (cH 22 5 1 _ _ aa dI aw _ _ 4 _ _ ((f+n+q)) aa aa hlt ae) ?_;refine M1 I a.only ?_;refine dP ?_;by_cases D:b=d
    .subst D;refine jt ?_;refine II 8 (q:Int) ((8*q:Nat):Int) ?_;refine aI (b' _) (BD _ _ _ 3 aa _ _ _ _ aa aa C) ?_;refine aI (a8 b) (by(rw[<-j];show _=_;kernel_rfl)) ?_;refine dQ ?_;refine pad (q:Int) 1 ((q+1:Nat):Int) ?_;refine bP ?_;go_wp2_with fail;go_roundw;case rel=>exact⟨q+1,ae,aa,hid (λi hi=>by rcases Nat.lt_succ_iff_lt_or_eq.1 hi with h|rfl;exact u i h;rw[v];exact j.out.symm),a⟩
     case measure=>grind[cw]
    .have S:=D;refine jt ?_;refine II 8 (q:Int) ((8*q:Nat):Int) ?_;refine aI (b' _) (BD _ _ _ 3 aa _ _ _ _ aa aa C) ?_;refine aI (a8 d) (by(rw[<-j];show _=_;kernel_rfl)) ?_;refine ah ?_;refine ag ?_;refine dP ?_;go_wp2_with fail;go_ret2;refine b1 ⟨?_,aa,a.only⟩;refine if_neg (λh=>S ?_);have k:=h.2 q hlt;rw[x,show n+4 -4=n by omega,z,v]at k;rw[k,j]
   .obtain rfl:q=4:=ae;go_upto_region 11 with fail;refine cM ?_;refine v2 ?_;refine aI _ (qY 22 5 1 _ _ aa dI aw _ _ c n aa aa ae) ?_;replace a:=a.new (bn _ 0 0 5 1 []) (b3.ac7 (ar.refl _ _) (Row.nil _ _ _ _));refine nt (m:=n) a 0 1 (by have q:=bR.cells (y.out.aH a.only);rw[l.out]at q;exact q) Yh (λK O bL a=>?_) (hby:=by omega);refine dP ?_;go_wp2_with fail;go_ret2;refine bH ⟨_,K,O,?_,by rw[l];simp,Row.nV (by rw[l];have q:=(a.fresh 0).row;simpa using q),a.only⟩;unfold sZ;rw[x,show n+4 -4=n by omega,z];exact if_pos ⟨ae,u⟩
 .have V:((bs.length:Nat):Int) -4<0:=ae;go_enter Tryz.func213,Tryz.ntmps213;have a:=bf w;go_upto_region 0 with fail;refine cM ?_;refine v2 ?_;refine ja ?_;refine mN (bs.length:Int) 4 ((bs.length:Int) -4) ?_;refine ah ?_;refine ag ?_;refine v2 ?_;refine ag ?_;refine dP ?_;go_wp2_with fail;go_ret2;exact b1 ⟨if_neg (λh=>P h.1),aa,a.only⟩
def auU{v s:Nat}(h:v<2^s)(b:1<=s):((v:Int).fdiv (2^(s -1))).fdiv (2^1)=0:=by
 have bB:(v:Int).fdiv (2^(s -1))=((v/2^(s -1):Nat):Int):=aF;rw[bB,show((2:Int)^1)=((2:Nat):Int) by rfl];have b7:((v/2^(s -1):Nat):Int).fdiv ((2:Nat):Int)=((v/2^(s -1)/2:Nat):Int):=aF;rw[b7,Nat.div_div_eq_div_mul];have a:2^(s -1)*2=2^s:=by rw[<-Nat.pow_succ];congr 1;omega
 rw[a,XJ h];rfl
def yt(f:Nat×Nat):Prop:=(f.2=1\/f.2=4\/f.2=8)/\f.1<2^(8*f.2)
def anZ f(h:yt f)w:
 aD ax 205 #[av #[J aG (f.1:Int),J R (f.2:Int)]] w λe w'=>e=aA (ak aB)/\aq w w':=by
 obtain⟨v,s⟩:=f;obtain⟨rfl|rfl|rfl,hv⟩:=h
 all_goals
  dsimp only at hv⊢;have hz:=auU hv bh;clear hv;go_enter func205,ntmps205;have a:=bf w;go_step;refine ag ?_;refine bM a _ (λda w1 a=>?_);refine cJ ?_;refine pl a 0 1 ?_;refine v3 ?_;refine pl a 0 1 ?_;refine v4 ?_;refine pl a 0 0 ?_;refine ah ?_;refine pl a 0 1 ?_;refine v2 ?_;refine aI _ (BD _ _ _ _ aa aG R _ _ aa aa bh) ?_;refine aI (J aG 0) (by(rw[<-hz];show _=_;kernel_rfl)) ?_;refine v3 ?_;refine an ?_;go_wp2_with fail;go_ret;exact⟨aa,a.only⟩
def rG(v s r:Nat):List Int:=(dF (s -r)).map (λj=>xj v (s -1 -j))
def akV{v s i}(h:i<s):rG v s i=rG v s (i+1)++[xj v i]:=by unfold rG;rw[show s -i=(s -(i+1))+1 by omega,pE,gx,jx,kC,show s -1 -(s -(i+1))=i by omega]
theorem Yi(v s r):(rG v s r).length=s -r:=by simp[rG]
def iS(fs:List (Nat×Nat)):List Int:=fs.flatMap (λf=>rG f.1 f.2 0)
def akE fs f:iS (fs++[f])=iS fs++rG f.1 f.2 0:=by simp[iS]
def akC{fs}(h:∀f∈fs,yt f):(iS fs).length<=fs.length*8:=by
 induction fs with
 |nil=>simp[iS]
 |cons f l b=>
  have h1:=b (λg a=>h g (List.mem_cons_of_mem _ a));have c:=(h f (sx ..)).1;grind[iS,Yi]
def afD A c bs(p C gY)fs w(W:bs.length<=8796093022208/\fs.length<=1048576)(hb:bR w A bs)(Z:∀f∈fs,yt f)(I:∀i f,fs[i]?=ab f->w.cell? ⟨p,C+i*2,af⟩=ab (J aG (f.1:Int))/\w.cell? ⟨p,C+i*2+1,af⟩=ab (J R (f.2:Int))):
 aD ax 126 #[ad A bs.length c,ad (ab ⟨p,C,af⟩) fs.length gY] w λe w'=>∃D H,e=aA (bg #[ad D (bs++iS fs).length H,ak aB])/\Row w.heap.size w' D (bs++iS fs).length H 5 1 ((bs++iS fs).map a8)/\aq w w':=by
 have O:=hid hb;have P:=hid I;have F:=hid Z;have cv:=hid W;clear hb I;go_enter func126,ntmps126;have a:=bf w;go_upto_region 0 with fail;refine cM ?_;refine C4 ?_;refine a6 (wW A c bs _ (O.out.aH a.only) ae) ?_;rintro e w1 ⟨awY,ayf,rfl,hrow,g⟩;replace a:=a.k8 g hrow;refine ba ?_;refine ah ?_;refine ag ?_;refine v3 ?_;refine an ?_;go_wp2_with fail;go_loopw [6,14] (λev y wr=>∃(q L:Nat) (b:Option bU) (d:Nat),q<=fs.length/\y=J R q/\ev=ad b L d/\aE (L=(bs++iS (fs.take q)).length)/\aj w (λ_=>False) wr [bn b L d 5 1 ((bs++iS (fs.take q)).map a8)]) (λev y wr=>fs.length -(cw y).toNat);case atStart=>exact⟨0,_,_,_,ae,aa,aa,hid (by simp[iS]),by grind[iS]⟩
 case round=>
  clear a;obtain⟨q,L,b,d,hq,rfl,rfl,o,a⟩:=hrel;have ayS:L<=8796093022208+8388608:=by have U:=akC (fs:=fs.take q) (λf j=>F f (List.mem_of_mem_take j));rw[List.length_take]at U;rw[o,dv];omega
  by_cases hlt:q<fs.length
  .have X:(q:Int)<(fs.length:Int):=ae;obtain⟨⟨v,s⟩,j⟩:∃f,fs[q]?=ab f:=⟨_,cj hlt⟩;obtain⟨M,N⟩:=P q (v,s) j;have n:=F _ (cL j);have Q:=hid (anZ _ n);have vL:s<=8:=by have:=n.1;simp only at this;omega
   have hs1:1<=s:=by have:=n.1;simp only at this;omega
   have T:=hid j;have G:=hid (And.intro M N);clear j n M N;go_upto_region 4 with fail;refine cM ?_;refine aI _ (cH _ _ 2 _ _ aa underlying229 aw _ _ _ _ q _ aa aa hlt aa) ?_;refine aI _ (acz _ aa aa (a.only.cell G.1 (λh=>h)) (a.only.cell G.2 (λh=>h)) underlying227 aa aw) ?_;refine bx a #[J _ 0,J _ 0] (λE aR a=>?_);refine a' a 0 (av _) (λbL a=>?_);refine ag ?_;refine bq a 0 #[J aG (v:Int),J R (s:Int)] ?_;refine bA (Q _) a (λca a=>?_);refine cJ ?_;refine pl a 0 1 ?_;refine mN _ 1 ((s:Int) -1) ?_;refine bP ?_;replace a:=a.pk [1,0];replace a:aj w (λ_=>False) ca [bn b (L+0) d 5 1 (((bs++iS (fs.take q))++rG v s s).map a8),ai E #[J aG (v:Int),J R (s:Int)] 227]:=by simpa [rG]using a
   go_wp2_with fail;go_loopw [6,9] (λev B wr=>∃(r z:Nat) (k:Int) (Y:Option bU) (l:Nat),(r<=s/\z+r=s/\k+1=(r:Int))/\B=J R k/\ev=ad Y (L+z) l/\aj w (λ_=>False) wr [bn Y (L+z) l 5 1 (((bs++iS (fs.take q))++rG v s r).map a8),ai E #[J aG (v:Int),J R (s:Int)] 227]) (λev B wr=>(cw B+1).toNat);case atStart=>exact⟨s,0,_,b,d,ae,aa,aa,a⟩
   case round=>
    clear a;obtain⟨r,z,k,Y,l,⟨apO,ab1,ao7⟩,rfl,rfl,a⟩:=hrel;obtain rfl|⟨i,rfl⟩:r=0\/∃i,r=i+1:=by cases r;exact bH aa;exact b1 ⟨_,aa⟩
    .obtain rfl:k=-1:=ae;obtain rfl:z=s:=ae;go_upto_region 11 with fail;refine cM ?_;refine pad _ 1 ((q+1:Nat):Int) ?_;refine bP ?_;go_wp2_with fail;have qL:fs.take (q+1)=fs.take q++[(v,z)]:=by rw[fu,T];rfl
     have hap:bs++iS (fs.take (q+1))=bs++iS (fs.take q)++rG v z 0:=by rw[qL,akE,j5]
     go_roundw;case rel=>exact⟨q+1,_,Y,l,ae,aa,aa,hid (by rw[hap,dv,Yi,<-o];omega),by rw[hap];exact a.drop 1⟩
     case measure=>simp[cw]<;>omega
    .obtain rfl:k=(i:Int):=ae;have V:8*i<=64:=ae;go_upto_region 10 with fail;refine cM ?_;refine v2 ?_;refine pl a 1 0 ?_;refine ah ?_;refine II 8 _ ((8*i:Nat):Int) ?_;refine aI _ (BD 42 _ _ 3 aa _ _ _ _ aa aa V) ?_;refine pk (a8 (xj v i)) ?_;refine f' a #[a8 (xj v i)] 5 (λgQ cF a=>?_);refine nt (m:=1) a 1 1 (aW.cellsOf (m:=1) (a.aZ 0) aa) (by intro u hu;rw[vi.1 hu];rfl) (λUP Ys c6 a=>?_);refine cJ ?_;refine mN (i:Int) 1 ((i:Int) -1) ?_;refine bP ?_;go_wp2_with fail;go_roundw;case rel=>exact⟨i,z+1,_,_,_,ae,aa,aa,by rw[akV ae,<-j5,gx];exact a.pick [1,2]⟩
     case measure=>simp[cw]<;>omega
  .have X:¬(q:Int)<(fs.length:Int):=ae;have K:fs.take q=fs:=tF ae;have x:=o.out;rw[K]at x;have S:=hid x;rw[K]at a;clear x;go_upto_region 12 with fail;refine cM ?_;refine v3 ?_;refine an ?_;go_wp2_with fail;go_ret2;have t:=S.out;rw[dv]at t;exact⟨b,d,by rw[<-t];rfl,by rw[<-t,<-gx];exact(a.fresh 0).row,a.only⟩
structure Rd where
 bs:List Int
 p:Nat
 bo:Int
 di:Int
def lD(A:Option bU)(c:Nat)(r:Rd):Array Value:=#[ad A r.bs.length c,J R (r.p:Int),J R r.bo,J R r.di]
def xq(x c:Int):Int:=aG.wrap ((nw 64 (aG.wrap (x*2^8))|||BitVec.ofInt 64 (aG.wrap c)).toNat:Int)
def mD(r:Rd)(k a:Int):Rd:=if r.bo=0/\¬k=0 then{r with bo:=k,di:=a}else r
def arO A c bs w(l:bs.length<=140737488355328)(hb:bR w A bs):
 aD ax 134 #[ad A bs.length c] w λe w'=>∃B b d,e=aA (ay (ab ⟨B,0,af⟩))/\w.heap.size<=B/\aW w' B (lD b d ⟨bs,0,0,0⟩) 333/\e2 w.heap.size w' b d bs/\¬dU b B/\aq w w':=by
 go_enter func134,ntmps134;have a:=bf w;go_step;refine ag ?_;refine cJ ?_;refine a6 (wW A c bs _ (hb.aH a.only) l) ?_;rintro e w1 ⟨f,k,rfl,hrow,g⟩;replace a:=a.k8 g hrow;refine ba ?_;refine v2 ?_;refine bM a (av _) (λm n a=>?_);refine bP ?_;go_wp2_with fail;go_ret;exact⟨_,f,k,aa,(a.fresh 0).2.2 _ aa|>.1,a.aZ 0,Row.nV (a.fresh 1).row,λh=>a.ne (i:=1) (j:=0) aa aa bh _ h aa,a.only⟩
def ar5 w:
 aD ax 219 #[] w λe w'=>∃B,e=aA (dJ (ej 286) #[] #[ay (ab ⟨B,0,af⟩)])/\w.heap.size<=B/\aW w' B #[J aG 0] 42/\aq w w':=by
 go_enter func219,ntmps219;have a:=bf w;go_step;refine ag ?_;refine dQ ?_;refine bx a #[J aG 0] (λb w1 a=>?_);refine a' a 0 (J _ 0) (λc a=>?_);refine ag ?_;refine dP ?_;go_wp2_with fail;go_ret;exact⟨_,aa,(a.fresh 0).2.2 _ aa|>.1,a.aZ 0,a.only⟩
def ar4 B(x c)w(hx:aW w B #[J aG x] 42):
 aD ax 286 #[J d' c,ay (ab ⟨B,0,af⟩)] w λe w'=>e=aA (J aG (xq x c))/\ar (λb=>b=B) w w'/\aW w' B #[J aG (xq x c)] 42:=by
 go_enter func286,ntmps286;have a:=aj.start (t:=ai B _ 42) ⟨hx,λb e=>(show b=B from e)▸aW.lt hx⟩;go_step;refine ag ?_;refine dQ ?_;refine pl a 0 0 ?_;refine pk (J aG (aG.wrap (x*2^8))) ?_;refine ah ?_;refine pk (J aG (aG.wrap c)) ?_;refine pk (J aG (xq x c)) ?_;refine a' a 0 (J _ _) (λw1 a=>?_);refine ag ?_;refine pl a 0 0 ?_;refine bP ?_;go_wp2_with fail;go_ret;exact⟨aa,a.only,a.aZ 0⟩
def atW(B t:Nat)A c r(g a)w(f:aW w B (lD A c r) t):
 aD ax 283 #[ay (ab ⟨B,0,af⟩),J R g,J R a] w λe w'=>e=aA (bg #[])/\ar (λb=>b=B) w w'/\aW w' B (lD A c (mD r g a)) t:=by
 obtain⟨bs,p,bo,di⟩:=r;have d:=aj.start (t:=ai B #[ad A bs.length c,J _ (p:Int),J _ bo,J _ di] t) ⟨f,λb e=>(show b=B from e)▸aW.lt f⟩;clear f;by_cases i:bo=0
 .subst i;by_cases k:g=0
  .subst k;go_enter Vz,VY;go_step;refine ag ?_;refine v4 ?_;refine pl d 0 2 ?_;refine pk (ak aB) ?_;refine v2 ?_;refine pk (ak au) ?_;refine bP ?_;go_wp2_with fail;first|go_end0|refine bodyPost_ret (results_none rfl _ _ _) rfl ?_
   exact⟨aa,d.only,by rw[mD,if_neg aT];exact d.aZ 0⟩
  .have l:=k;go_enter Vz,VY;go_step;refine ag ?_;refine v4 ?_;refine pl d 0 2 ?_;refine pk (ak aB) ?_;refine v2 ?_;refine aI (ak aB) (by(go_simp;try simp[l])) ?_;refine ah ?_;refine ag ?_;refine v6 ?_;refine a' d 0 (av _) (λw1 d=>?_);refine an ?_;go_wp2_with fail;first|go_end0|refine bodyPost_ret (results_none rfl _ _ _) rfl ?_
   exact⟨aa,d.only,by rw[mD,if_pos ⟨aa,l⟩];exact d.aZ 0⟩
 .have j:=i;go_enter Vz,VY;go_step;refine ag ?_;refine v4 ?_;refine pl d 0 2 ?_;refine aI (ak au) (by(go_simp;try simp[j])) ?_;refine ah ?_;iterate 2 refine ps ?_
  refine bP ?_;go_wp2_with fail;first|go_end0|refine bodyPost_ret (results_none rfl _ _ _) rfl ?_
  exact⟨aa,d.only,by rw[mD,if_neg (λh=>j h.1)];exact d.aZ 0⟩
def aeo(B t:Nat)A c r n w(b:Has w (ai B (lD A c r) t))(g:r.bo=0)(f:r.p+n<=r.bs.length)(hc:r.bs.length<=c)(d:r.bs.length<=140737488355328):
 aD ax 218 #[ay (ab ⟨B,0,af⟩),J R (n:Int)] w λe w'=>e=aA (bg #[ad (fE A c r.p 1) n (c -r.p),ak aB])/\Turned w w' (ai B (lD A c r) t) (ai B (lD A c {r with p:=r.p+n}) t):=by
 obtain⟨bs,p,bo,di⟩:=r;obtain rfl:=g;replace b:Has w (ai B #[ad A bs.length c,J _ (p:Int),J _ 0,J _ di] t):=b;replace f:p+n<=bs.length:=f;replace hc:bs.length<=c:=hc;replace d:bs.length<=140737488355328:=d;have i:p+n<=140737488355328:=ae;go_enter Vq,VU;have a:=aj.start b;go_step;refine ag ?_;refine v2 ?_;refine oM ?_;refine pl a 0 2 ?_;refine pk (ak au) ?_;refine cJ ?_;refine cb (ak au) ?_;refine ig ?_;refine bN a [] (λ_ _=>aY) (λ_ _=>emp) (λ_=>[]) (λ|4=>[0]|9=>[0]|_=>[]) (λ_=>[]) [0] (λh=>?_);refine iw ?_;refine dl 0 0 ?_;refine iw ?_;refine dl 0 1 ?_;refine aL _ (λ_ _ _=>pK 3 _ _ 3 aa _ _ ((bs.length:Int) -(p:Int)) aa aa ae ae ae) ?_;refine aL (ak au) (λ_ _ _=>by(go_simp;try omega)) ?_;refine aK ?_;refine bQ λw1 a=>?_;refine jt ?_;refine pl a 0 1 ?_;refine ah ?_;refine pad _ _ ((p+n:Nat):Int) ?_;refine v2 ?_;refine a' a 0 (J _ _) (λj a=>?_);refine ct ?_;refine bN a [] (λ_ _=>aY) (λ_ _=>emp) (λ_=>[]) (λ|3=>[0]|7=>[0]|13=>[0]|_=>[]) (λ_=>[]) [0] (λh=>?_);refine c7 ?_;refine dl 0 0 ?_;refine c7 ?_;refine dl 0 1 ?_;refine aK ?_;refine aL _ (λ_ _ _=>pK 3 _ _ 3 aa _ _ ((p:Nat):Int) aa aa ae ae ae) ?_;refine c7 ?_;refine dl 0 1 ?_;refine aL _ (λ_ _ _=>IW 22 5 1 _ _ _ aa dI aw A _ c p _ n aa aa aa ae ae) ?_;refine bp ?_;refine bQ λk a=>?_;go_wp2_with fail;go_ret2;exact⟨aa,a.gi 0⟩
def pJ(r:Rd)(n:Int):Rd:=if n<0 then mD r 2 r.p else mD r 8 r.bs.length
def M8(B t:Nat)A c r(b a)w(g:Has w (ai B (lD A c r) t)):
 aD ax 283 #[ay (ab ⟨B,0,af⟩),J R b,J R a] w λe w'=>e=aA (bg #[])/\Turned w w' (ai B (lD A c r) t) (ai B (lD A c (mD r b a)) t):=
 (atW B t A c r b a w g.1).mono (λ_ _ ⟨h1,d,f⟩=>⟨h1,vq d f⟩)
def aen(B t:Nat)A c r n w(b:Has w (ai B (lD A c r) t))(j:r.p<=r.bs.length)(f:r.bs.length<=140737488355328)(l:-1<=n/\n<=4611686018427387904)(g:r.bo≠0\/n<0\/(r.bs.length:Int)<r.p+n):
 aD ax 218 #[ay (ab ⟨B,0,af⟩),J R n] w λe w'=>e=aA (bg #[ad af 0 0,ak au])/\Turned w w' (ai B (lD A c r) t) (ai B (lD A c (pJ r n)) t):=by
 obtain⟨bs,p,bo,di⟩:=r;replace b:Has w (ai B #[ad A bs.length c,J _ (p:Int),J _ bo,J _ di] t):=b;replace j:p<=bs.length:=j;replace f:bs.length<=140737488355328:=f;by_cases i:bo=0
 .subst i;replace g:n<0\/(bs.length:Int)<p+n:=g.resolve_left (λh=>h aa);go_enter Vq,VU;have a:=aj.start b;go_step;refine ag ?_;refine v2 ?_;refine oM ?_;refine pl a 0 2 ?_;refine pk (ak au) ?_;refine bP ?_;by_cases k:n<0
  .have hb:pJ (⟨bs,p,0,di⟩:Rd) n=mD (⟨bs,p,0,di⟩:Rd) 2 p:=by grind[pJ]
   refine b4 ?_;refine cb (ak aB) ?_;refine AV ?_;refine pl a 0 1 ?_;refine a6 (M8 B t A c (⟨bs,p,0,di⟩:Rd) 2 p _ (a.has 0)) ?_;rintro e w1 ⟨rfl,d⟩;replace a:=a.eF 0 d;refine ba ?_;refine ag ?_;refine dP ?_;go_wp2_with fail;go_ret2;exact⟨aa,aF⟩
  .have hb:pJ (⟨bs,p,0,di⟩:Rd) n=mD (⟨bs,p,0,di⟩:Rd) 8 bs.length:=by grind[pJ]
   refine b4 ?_;refine cb (ak au) ?_;refine ig ?_;refine bN a [] (λ_ _=>aY) (λ_ _=>emp) (λ_=>[]) (λ|4=>[0]|9=>[0]|_=>[]) (λ_=>[]) [0] (λm=>?_);refine iw ?_;refine dl 0 0 ?_;refine iw ?_;refine dl 0 1 ?_;refine aL _ (λ_ _ _=>pK 3 _ _ 3 aa _ _ ((bs.length:Int) -(p:Int)) aa aa ae ae ae) ?_;refine aL (ak aB) (λ_ _ _=>by(go_simp;try omega)) ?_;refine aK ?_;refine bQ λo a=>?_;refine oM ?_;refine pl a 0 0 ?_;refine ah ?_;refine a6 (M8 B t A c (⟨bs,p,0,di⟩:Rd) 8 _ _ (a.has 0)) ?_;rintro e q ⟨rfl,d⟩;replace a:=a.eF 0 d;refine ba ?_;refine ag ?_;refine dP ?_;go_wp2_with fail;go_ret2;exact⟨aa,by first|exact a.gi 0|(rw[hb];exact a.gi 0)⟩
 .have hb:pJ (⟨bs,p,bo,di⟩:Rd) n=(⟨bs,p,bo,di⟩:Rd):=by grind[pJ,mD]
  go_enter Vq,VU;have a:=aj.start b;go_step;refine ag ?_;refine v2 ?_;refine oM ?_;refine pl a 0 2 ?_;refine aI (ak aB) (by(go_simp;try simp[i])) ?_;refine ah ?_;refine ag ?_;refine dP ?_;go_wp2_with fail;go_ret2;exact⟨aa,by first|exact a.gi 0|(rw[hb];exact a.gi 0)⟩
def eo(B:Nat)(A:Option bU)(c:Nat)(r:Rd):br:=both (ai B (lD A c r) 333) (cc A c r.bs)
def uw(l:List Int):Int:=l.foldl xq 0
theorem ar3 l x:uw (l++[x])=xq (uw l) x:=by simp[uw]
def wrap_u64 z:0<=aG.wrap z/\aG.wrap z<18446744073709551616:=by grind[Dj,Di,JF]
theorem ar2(x c):0<=xq x c/\xq x c<18446744073709551616:=wrap_u64 _
theorem Tv l:0<=uw l/\uw l<18446744073709551616:=by
 have h:∀(l:List Int) (a:Int),0<=a/\a<18446744073709551616->0<=l.foldl xq a/\l.foldl xq a<18446744073709551616:=by
  intro l;induction l with
  |nil=>simp
  |cons x l b=>grind[ar2]
 exact h l 0 ae
def s7(r:Rd)(n:Nat):List Int:=(r.bs.drop r.p).take n
def auj B A c r s w(y:Has w (eo B A c r))(F:r.bo=0)(b:r.p+s<=r.bs.length)(hs1:1<=s/\s<=8)(d:r.bs.length<=140737488355328):
 aD ax 135 #[ay (ab ⟨B,0,af⟩),J R (s:Int)] w λe w'=>e=aA (J aG (uw (s7 r s)))/\Turned w w' (eo B A c r) (eo B A c {r with p:=r.p+s}):=by
 obtain⟨bs,p,bo,di⟩:=r;obtain rfl:bo=0:=F;replace b:p+s<=bs.length:=b;replace d:bs.length<=140737488355328:=d;have hb0:=y.1.2.1;have hc:bs.length<=c:=hb0.2.2;have k:=bR.win hb0.1 hc (i:=p) (q:=p+s) b;rw[tG]at k;obtain⟨kW,z,v,_⟩:=k aF;have t:=hid v;clear v k hb0
 have D:aE (∀l W,aj w (eo B A c ⟨bs,p,0,di⟩).c5 W l->∀j,l[j]?=ab (cc A c bs)->∀q,q<s->W.cell? ⟨kW,z+q,af⟩=ab (J d' ((s7 ⟨bs,p,0,di⟩ s)[q]?.getD 0))):=hid (λl W h j G q I=>by have h1:=bR.win (aj.at h j G).1 hc (i:=p) (q:=p+s) b;rw[tG]at h1;obtain⟨eR,fa,e,E⟩:=h1 aF;rw[t]at e;cases e;exact E q aF);go_enter Tryz.func135,Tryz.ntmps135;have a:aj w (eo B A c ⟨bs,p,0,di⟩).c5 w [ai B #[ad A bs.length c,J R (p:Int),J R 0,J R di] 333,cc A c bs]:=(aj.start y).fh;go_upto_region 0 with fail;refine cM ?_;refine cJ ?_;refine pk (ak au) ?_;refine b4 ?_;refine cb (ak au) ?_;refine v2 ?_;refine cb (ak au) ?_;refine AV ?_;refine a6 ((by have h:=aeo B 333 A c (⟨bs,p,0,di⟩:Rd) s _ (a.has 0) aa b hc d;rw[t.out]at h;exact h)) ?_;rintro e w1 ⟨rfl,f⟩;replace f:Turned _ _ _ (ai B #[ad A bs.length c,J R ((p+s:Nat):Int),J R 0,J R di] 333):=f;replace a:=a.eF 0 f;refine UK ?_;refine pk (ak au) ?_;refine afR ?_;refine a6 (ar5 _) ?_;rintro e L ⟨o,rfl,lo,hx,g⟩;replace a:=a.new _ (yh g hx lo);refine ba ?_;refine ah ?_;refine ag ?_;refine v3 ?_;refine an ?_;go_wp2_with fail;go_loopw [7,32] (λC n wr=>∃q:Nat,q<=s/\C=J aG (uw ((s7 ⟨bs,p,0,di⟩ s).take q))/\n=J R q/\aj w (eo B A c ⟨bs,p,0,di⟩).c5 wr [ai o #[J aG (uw ((s7 ⟨bs,p,0,di⟩ s).take q))] 42,ai B #[ad A bs.length c,J R ((p+s:Nat):Int),J R 0,J R di] 333,cc A c bs]) (λC n wr=>s -(cw n).toNat);case atStart=>exact⟨0,ae,aa,aa,a.pick [0,1,2]⟩
 case round=>
  clear a;obtain⟨q,I,rfl,rfl,a⟩:=hrel;by_cases hlt:q<s
  .have H:(q:Int)<(s:Int):=ae;obtain⟨x,hx⟩:∃x,(s7 ⟨bs,p,0,di⟩ s)[q]?=ab x:=⟨_,cj (by grind[s7])⟩;have hcell:=D _ _ a 2 aa q hlt;rw[hx,pG]at hcell;have u:aE (uw ((s7 ⟨bs,p,0,di⟩ s).take (q+1))=xq (uw ((s7 ⟨bs,p,0,di⟩ s).take q)) x):=hid (by grind[fu,ar3]);clear hx;go_upto_region 12 with fail;refine cM ?_;refine aI _ (cH 22 5 1 _ _ aa dI aw _ _ _ _ _ ((z+q)) aa aa hlt ae) ?_;refine v2 ?_;refine ja ?_;refine a6 (ar4 o (uw ((s7 ⟨bs,p,0,di⟩ s).take q)) x _ (a.aZ 0)) ?_;rintro e M ⟨rfl,K,h1⟩;replace a:=a.eF 0 (vq K h1);refine ba ?_;refine dQ ?_;refine pad (q:Int) 1 ((q+1:Nat):Int) ?_;refine bP ?_;go_wp2_with fail;go_roundw;case rel=>exact⟨q+1,ae,by rw[u],aa,by rw[u];exact a⟩
   case measure=>grind[cw]
  .have H:¬(q:Int)<(s:Int):=ae;obtain rfl:q=s:=ae;have m:(s7 ⟨bs,p,0,di⟩ q).take q=(s7 ⟨bs,p,0,di⟩ q):=tF (by grind[s7]);rw[m]at a;simp only[m];clear m;go_upto_region 15 with fail;refine cM ?_;refine dP ?_;go_wp2_with fail;go_ret;exact⟨aa,(a.pick (l':=[ai B _ _,cc A c bs]) [1,2]).star.gi 0⟩
def qw(r:Rd):Prop:=r.p<=r.bs.length/\r.bs.length<=140737488355328
def k'(r:Rd)(s:Nat):Int×Rd:=if r.bo=0/\r.p+s<=r.bs.length then(uw (s7 r s),{r with p:=r.p+s})else(0,pJ r s)
theorem Hg r(k a):(mD r k a).bs=r.bs/\(mD r k a).p=r.p:=by grind[mD]
theorem KT r n:(pJ r n).bs=r.bs/\(pJ r n).p=r.p:=by grind[pJ,Hg]
theorem Ns{r}(h:qw r)s:qw (k' r s).2:=by grind[k',qw,KT]
def I6 r s:0<=(k' r s).1/\(k' r s).1<18446744073709551616:=by
 unfold k';split;·exact Tv _
 .simp
def p4(r:Rd):Int×Rd:=if(k' r 8).1>4611686018427387903 then(0,mD (k' r 8).2 2 r.p)else k' r 8
def acC{r}(h:qw r):qw (p4 r).2:=by grind[p4,qw,Hg,Ns]
def acD r:0<=(p4 r).1/\(p4 r).1<=4611686018427387903:=by
 unfold p4;have:=I6 r 8;split;·simp
 .omega
def IU B A c r(s:Nat)w(g:Has w (eo B A c r))(b:qw r)(hs1:1<=s/\s<=8):
 aD ax 135 #[ay (ab ⟨B,0,af⟩),J R (s:Int)] w λe w'=>e=aA (J aG (k' r s).1)/\Turned w w' (eo B A c r) (eo B A c (k' r s).2):=by
 by_cases d:r.bo=0/\r.p+s<=r.bs.length;·refine(auj B A c r s w g d.1 d.2 hs1 b.2).mono (λe w' h=>?_);grind[k']
 have b7:k' r s=(0,pJ r s):=by grind[k']
 rw[b7];clear b7;have f:r.bo≠0\/(s:Int)<0\/(r.bs.length:Int)<r.p+(s:Int):=ae;clear d;have j:=hid (λW (h:Has W (ai B (lD A c r) 333))=>aen B 333 A c r s W h b.1 b.2 ae f);have i:=hid (KT r s).1;clear f b;go_enter Tryz.func135,Tryz.ntmps135;have a:aj w (eo B A c r).c5 w [ai B (lD A c r) 333,cc A c r.bs]:=(aj.start g).fh;go_step;refine ag ?_;refine cJ ?_;refine pk (ak au) ?_;refine b4 ?_;refine cb (ak au) ?_;refine v2 ?_;refine cb (ak au) ?_;refine AV ?_;refine a6 (j.out _ (a.has 0)) ?_;rintro e w1 ⟨rfl,k⟩;replace a:=a.eF 0 k;refine UK ?_;refine pk (ak aB) ?_;refine ag ?_;refine ah ?_;refine an ?_;go_wp2_with fail;go_ret;exact⟨aa,(by have h:=(a.pick (l':=[ai B (lD A c (pJ r s)) 333,cc A c r.bs]) [0,1]).star;unfold eo;rw[i];exact aj.gi (s:=_) h 0)⟩
def aj.rd{ao w:aM}{FX:Nat->Prop}{l:List br}{B c:Nat}{A:Option bU}{r:Rd}(h:aj ao FX w l)(i:Nat)(hi:l[i]?=ab (eo B A c r):=by rfl):aW w B (lD A c r) 333:=(h.at i hi).1
def atX B A c r(b a)w(i:Has w (eo B A c r)):
 aD ax 283 #[ay (ab ⟨B,0,af⟩),J R b,J R a] w λe w'=>e=aA (bg #[])/\Turned w w' (eo B A c r) (eo B A c (mD r b a)):=by
 have d:aj w (eo B A c r).c5 w [ai B (lD A c r) 333,cc A c r.bs]:=(aj.start i).fh;refine(M8 B 333 A c r b a w (d.has 0)).mono (λe w' ⟨h1,f⟩=>⟨h1,?_⟩);have h:=(d.y' f).star;have e:=(Hg r b a).1;have g:aj w (eo B A c r).c5 w' [eo B A c (mD r b a)]:=by grind[eo]
 exact g.gi 0
def aeh B A c r w(u:Has w (eo B A c r))(m:qw r):
 aD ax 211 #[ay (ab ⟨B,0,af⟩)] w λe w'=>e=aA (J R (p4 r).1)/\Turned w w' (eo B A c r) (eo B A c (p4 r).2):=by
 have j:=hid (λW (h:Has W (eo B A c r))=>IU B A c r 8 W h m ae);have d:=hid (I6 r 8);have C:r.p<=140737488355328:=by grind[qw]
 obtain⟨v,b,i⟩:∃v b,k' r 8=(v,b):=⟨_,_,aa⟩;rw[i]at d;obtain⟨x,f,hx,bB,b7⟩:∃x f,p4 r=(x,f)/\(v>4611686018427387903->x=0/\f=mD b 2 r.p)/\(¬v>4611686018427387903->v=x/\b=f):=by grind[p4]
 rw[hx];have o:=hid bB;have q:=hid b7;have s:aE (∀W,Has W (eo B A c r)->aD ax 135 #[ay (ab ⟨B,0,af⟩),J R 8] W λe w'=>e=aA (J aG v)/\Turned W w' (eo B A c r) (eo B A c b)):=hid (λW h=>by have l:=j W h;rw[i]at l;exact l);clear j bB b7 i hx m;have hv0:=d.1;have y:=d.2;clear d;simp only at hv0 y;go_enter func211,ntmps211;have a:aj w (eo B A c r).c5 w [eo B A c r]:=aj.start u;go_step;refine ag ?_;refine cJ ?_;refine pk (ak au) ?_;refine oM ?_;refine aI (J R (r.p:Int)) (fy (B:=B) (k:=1) (t:=333) (cs:=lD A c r) aa aa (aj.rd a 0) aa aw) ?_;refine cJ ?_;refine a6 (s.out _ (a.has 0)) ?_;rintro e w1 ⟨rfl,g⟩;replace a:=a.eF 0 g;refine FM ?_;by_cases n:v>4611686018427387903;·obtain⟨rfl,rfl⟩:=o n;refine b4 ?_;refine cb (ak aB) ?_;refine oM ?_;refine a6 (atX B A c b 2 r.p _ (a.has 0)) ?_;rintro e D ⟨rfl,g⟩;replace a:=a.eF 0 g;refine ba ?_;refine ag ?_;refine ah ?_;refine an ?_;go_wp2_with fail;go_ret;exact⟨aa,a.gi 0⟩
 .obtain⟨rfl,rfl⟩:=q n;refine b4 ?_;refine cb (ak au) ?_;refine b4 ?_;refine aI (J R v) (by(have z:R.wrap v=v:=IntWalk.i64_in _ ⟨ae,ae⟩;go_simp;try rw[z])) ?_;refine bP ?_;go_wp2_with fail;go_ret;exact⟨aa,a.gi 0⟩
def atY B A c r w(b:Has w (eo B A c r)):
 aD ax 212 #[ay (ab ⟨B,0,af⟩)] w λe w'=>e=aA (av #[J R r.bo,J R r.di])/\aq w w':=by
 go_enter func212,ntmps212;have a:=bf w;have hr:aW w B (lD A c r) 333:=b.1.1;go_step;refine ag ?_;refine bx a #[J R 0,J R 0] (λd w1 a=>?_);refine b4 ?_;refine pk (ak au) ?_;refine oM ?_;refine aI (av #[J R r.bo,J R r.di]) (mg (cs':=#[J R r.bo,J R r.di]) aa aa (aW.aH hr a.only) aw (of_decide_eq_true aw) aw aw) ?_;refine a' a 0 (av #[J R r.bo,J R r.di]) (λf a=>?_);refine an ?_;go_wp2_with fail;refine dn (v:=_) (jd aa _ _ _ _ _ _ _ aa (a.aZ 0) Tryz.underlying49 aa aw) aa (⟨aa,a.only⟩)
structure dL where
 size:Nat
 cnt:Nat
 bytes:List Int
 writes:Int
 keep:Int
 er:Int
 eZ:Int
 iq:Int
 hi:Int
 cW:Int
 cache:List (Nat×List Int)
 down:Bool
def ny.plain(m:ny):List (Nat×List Int):=m.L.map (λx=>(x.sec,x.bs))
def pO(m:ny)(d:dL):Array Value:=#[J R (d.size:Int),ad (ab ⟨m.cB,0,af⟩) d.bytes.length d.bytes.length,J R d.writes,J aG d.keep,J R d.er,J R d.eZ,J R d.iq,J R d.hi,J R d.cW,ad m.A m.L.length m.c,dE (ab m.e1),ak d.down]
def sV(l:List Nat)(i:Nat):Option Nat:=(l.foldl (λ(p:Nat×Option Nat) j=>(p.1+1,if j=i then ab p.1 else p.2)) (0,af)).2
def acn i:∀(l:List Nat) p,(l.foldl (λ(p) j=>(p.1+1,if j=i then ab p.1 else p.2)) p).1=p.1+l.length
 |[],p=>by simp
 |j::l,p=>by rw[zF,acn i l];simp;omega
theorem aco l(j i):sV (l++[j]) i=if j=i then ab l.length else sV l i:=by unfold sV;rw[List.foldl_append,zF,List.foldl_nil];have h:=acn i l (0,af);rw[h];simp
def acp{l i k}(h:sV l i=ab k):l[k]?=ab i:=by
 suffices a:∀n (l:List Nat),l.length=n->sV l i=ab k->l[k]?=ab i from a _ l aa h;intro n;induction n with
 |zero=>grind[sV]
 |succ n c=>
  intro l b h;have hne:l≠[]:=λe=>by grind
  rw[<-List.dropLast_concat_getLast hne]at h⊢;grind[aco]
def Ee(x:Int):Value:=J R x
def jM(b:Nat)(l:List Nat):br:=⟨λi=>i=b,λw=>∃a:List (Int×aO),dY w b Ee db a/\a.length<=l.length/\∀i:Nat,ec a (i:Int)=(sV l i).map (λk=>J R (k:Int)),λw w' h f d=>by obtain⟨a,⟨es,e,hb,r⟩,c⟩:=d;exact⟨a,⟨es,_,CB h aa hb,r⟩,c⟩⟩
def l4(L:List QA):List Value:=L.flatMap (λx=>[J R (x.sec:Int),ad x.A x.bs.length x.c])
theorem ali L x:l4 (L++[x])=l4 L++[J R (x.sec:Int),ad x.A x.bs.length x.c]:=by simp[l4]
def Q0{L k x}(h:L[k]?=ab x):(l4 L)[k*2]?=ab (J R (x.sec:Int))/\(l4 L)[k*2+1]?=ab (ad x.A x.bs.length x.c):=by
 induction L generalizing k with
 |nil=>grind
 |cons y l a=>
  cases k with
  |zero=>
   obtain rfl:y=x:=aF;exact⟨aa,aa⟩
  |succ k=>grind[l4]
def lZ(L:List QA):br:=⟨λb=>∃x∈L,dU x.A b,λw=>∀x∈L,e2 0 w x.A x.c x.bs,λw w' h a d x hx=>(cc x.A x.c x.bs).oA w w' (λb hb=>h b ⟨x,hx,hb⟩) (λb hb=>a b ⟨x,hx,hb⟩) (d x hx)⟩
abbrev oj:Nat:=258
def aN(B:Nat)(m:ny)(d:dL):br:=kN (d.cache=m.plain) (both (ai B (pO m d) 120) (both (ai m.cB (aX a8 d.bytes []) 5) (both (jM m.e1 (d.cache.map (·.1))) (both (bn m.A m.L.length m.c oj 2 (l4 m.L)) (lZ m.L)))))
def aj.I7{ao w FX l q t}(h:aj ao FX w (kN q t::l)):q/\aj ao FX w (t::l):=
 ⟨(h.holds _ (sx ..)).1,h.as 0 aa t (λh=>h.2) (λ_ h=>h)⟩
def aj.kN{ao w FX l q t}(h:aj ao FX w (t::l))(a:q):aj ao FX w (Go.Proofs.YtcmhplknoglbkaaGreat.kN q t::l):=
 h.as 0 aa (Go.Proofs.YtcmhplknoglbkaaGreat.kN q t) (λh=>⟨a,h⟩) (λ_ h=>h)
def aj.T4{ao w FX l t}(h:aj ao FX w (t::l)):aj ao FX w (l++[t]):=h.perm (vk (l₁:=[t]) (l₂:=l))
def aj.zW{ao w FX l B m d}(h:aj ao FX w (aN B m d::l)):
 d.cache=m.plain/\aj ao FX w (ai B (pO m d) 120::ai m.cB (aX a8 d.bytes []) 5::jM m.e1 (d.cache.map (·.1))::bn m.A m.L.length m.c oj 2 (l4 m.L)::lZ m.L::l):=by
 obtain⟨g,h1⟩:=h.I7;have a:=h1.fh;have b:aj ao FX w (both _ _::(l++[ai B _ _])):=a.T4;have e:aj ao FX w (both _ _::((l++[ai B _ _])++[ai _ _ 5])):=b.fh.T4;have f:aj ao FX w (both _ _::(((l++[ai B _ _])++[ai _ _ 5])++[jM _ _])):=e.fh.T4;refine⟨g,f.fh.perm ?_⟩;simp;refine(vk (l₁:=[bn _ _ _ _ 2 _,lZ _]) (l₂:=l++[ai B _ _,ai _ _ 5,jM _ _])).trans ?_;simp;exact vk (l₁:=l) (l₂:=_)
def aj.vu{ao w FX l B m d}(f:d.cache=m.plain)(h:aj ao FX w (ai B (pO m d) 120::ai m.cB (aX a8 d.bytes []) 5::jM m.e1 (d.cache.map (·.1))::bn m.A m.L.length m.c oj 2 (l4 m.L)::lZ m.L::l)):
 aj ao FX w (aN B m d::l):=by
 have h1:aj ao FX w (bn m.A m.L.length m.c oj 2 (l4 m.L)::lZ m.L::(l++[ai B (pO m d) 120,ai m.cB (aX a8 d.bytes []) 5,jM m.e1 (d.cache.map (·.1))])):=h.perm (by grind[vk,bn,lZ])
 have r:∀(a b c s),aj ao FX w (s::(l++[a,b,c]))->aj ao FX w (c::s::(l++[a,b])):=λa b c s h=>h.perm (by have e:s::(l++[a,b,c])=(s::(l++[a,b]))++[c]:=aT;rw[e];exact vk)
 have g:∀(a b s),aj ao FX w (s::(l++[a,b]))->aj ao FX w (b::s::(l++[a])):=λa b s h=>h.perm (by have e:s::(l++[a,b])=(s::(l++[a]))++[b]:=aT;rw[e];exact vk);have i:∀(a s),aj ao FX w (s::(l++[a]))->aj ao FX w (a::s::l):=λa s h=>h.perm (by grind[vk]);exact((i _ _ (g _ _ _ (r _ _ _ _ h1.star).star).star).star).kN f
structure dR (d:dL):Prop where
 mj:1<=d.size
 vr:1<=d.cnt
 len:d.bytes.length=d.cnt*d.size
 small:d.cnt*d.size<=1048576
 cache:∀x∈d.cache,x.1<d.cnt/\x.2.length=d.size
 ek:d.cache.length<=1073741824
 wr:db d.writes
def dR.BJ{d}(h:dR d):d.cnt<=1048576/\d.size<=1048576:=by have h1:=h.small;have a:=zI d.cnt h.mj;have b:=GO d.size h.vr;omega
def Has.dev{w B m d}(h:Has w (aN B m d)):aW w B (pO m d) 120:=h.1.2.1
abbrev dh(B:Nat):Value:=ay (ab ⟨B,0,af⟩)
def Rn B m d w(hb:aW w B (pO m d) 120)(b:dR d):
 aD ax 203 #[ay (ab ⟨B,0,af⟩)] w λe w'=>e=aA (J R (d.cnt:Int))/\aq w w':=by
 have c:d.bytes.length/d.size=d.cnt:=by rw[b.len];exact Nat.mul_div_cancel _ b.mj
 have f:=b.BJ;go_enter func203,ntmps203;have a:=bf w;go_step;refine ag ?_;refine ig ?_;refine bN a [] (λ_ _=>aY) (λ_ _=>emp) (λ_=>[]) (λ_=>[]) (λ_=>[]) [] (λg=>?_);refine c7 ?_;refine aL (ad _ _ _) (λ_ _ a=>fy aa aa (aW.aH hb a.only) aa aw) ?_;refine iw ?_;refine aL (J _ _) (λ_ _ a=>fy aa aa (aW.aH hb a.only) aa aw) ?_;refine aL _ (λ_ _ _=>BC 3 _ _ 3 aa _ _ _ aa aa b.mj c ae) ?_;refine aK ?_;refine bQ λw1 a=>?_;go_wp2_with fail;go_ret;exact⟨aa,a.only⟩
def wY B m d w(hb:aW w B (pO m d) 120)(b:dR d):
 aD ax 51 #[ay (ab ⟨B,0,af⟩)] w λe w'=>e=aA (J R (d.size:Int))/\aq w w':=by
 go_enter func51,ntmps51;have a:=bf w;go_step;refine ag ?_;refine cJ ?_;refine pk (ak au) ?_;refine oM ?_;refine iK hb a.only ?_;refine bP ?_;go_wp2_with fail;go_ret;exact⟨aa,a.only⟩
def Lc B m d w(hb:aW w B (pO m d) 120)(b:dR d):
 aD ax 124 #[ay (ab ⟨B,0,af⟩)] w λe w'=>e=aA (J R (d.cnt:Int))/\aq w w':=by
 go_enter func124,ntmps124;have a:=bf w;go_step;refine ag ?_;refine cJ ?_;refine pk (ak au) ?_;refine jt ?_;refine bA (Rn B m d _ (aW.aH hb a.only) b) a (λw1 a=>?_);refine bP ?_;go_wp2_with fail;go_ret;exact⟨aa,a.only⟩
def Y6 B m d(i:Nat)(hi:i<d.cnt)w(hb:aW w B (pO m d) 120)(b:dR d):
 aD ax 146 #[ay (ab ⟨B,0,af⟩),J R (i:Int)] w λe w'=>e=aA (ad (fE (ab ⟨m.cB,0,af⟩) d.bytes.length (i*d.size) 1) d.size (d.bytes.length -i*d.size))/\aq w w':=by
 have c:i*d.size+d.size=(i+1)*d.size:=aF;have hle:(i+1)*d.size<=d.bytes.length:=by rw[b.len];exact tH _ hi
 have hsm:d.bytes.length<=1048576:=by rw[b.len];exact b.small
 have f:=b.BJ;go_enter func146,ntmps146;have a:=bf w;go_step;refine ag ?_;refine ig ?_;refine bN a [] (λ_ _=>aY) (λ_ _=>emp) (λ_=>[]) (λ_=>[]) (λ_=>[]) [] (λg=>?_);refine c7 ?_;refine aL (ad _ _ _) (λ_ _ a=>fy aa aa (aW.aH hb a.only) aa aw) ?_;refine iw ?_;refine aL (J _ _) (λ_ _ a=>fy aa aa (aW.aH hb a.only) aa aw) ?_;refine aL _ (λ_ _ _=>nH 3 _ _ 3 aa _ _ ((i*d.size:Nat):Int) aa aa aS ae ae) ?_;refine aK ?_;refine aL _ (λ_ _ _=>lK 3 _ _ 3 aa _ _ ((i+1:Nat):Int) aa aa ae ae ae) ?_;refine c7 ?_;refine aL (J _ _) (λ_ _ a=>fy aa aa (aW.aH hb a.only) aa aw) ?_;refine aL _ (λ_ _ _=>nH 3 _ _ 3 aa _ _ (((i+1)*d.size:Nat):Int) aa aa aS ae ae) ?_;refine aL _ (λ_ _ _=>IW 22 5 1 _ _ _ aa dI aw _ _ _ _ _ _ aa aa aa c hle) ?_;refine aK ?_;refine bQ λw1 a=>?_;go_wp2_with fail;go_ret;exact⟨aa,a.only⟩
def j9(d:dL)(i:Int):Int:=if d.down=aB then 18 else if i<0\/(d.cnt:Int)<=i then 2 else 0
def La{w B m d b}(h:aW w B (pO m d) 120)(e:d.down=b):aW w B #[J R (d.size:Int),ad (ab ⟨m.cB,0,af⟩) d.bytes.length d.bytes.length,J R d.writes,J aG d.keep,J R d.er,J R d.eZ,J R d.iq,J R d.hi,J R d.cW,ad m.A m.L.length m.c,dE (ab m.e1),ak b] 120:=by subst e;exact h
def Rl B m d i w(hb:aW w B (pO m d) 120)(h:dR d):
 aD ax 281 #[dh B,J R i] w λe w'=>e=aA (J R (j9 d i))/\aq w w':=by
 have f:=hid hb;clear hb;rcases cZ:d.down with _|_
 .by_cases j:i<0
  .have b:j9 d i=2:=by grind[j9]
   rw[b];clear b;have c:=hid cZ;clear cZ;go_enter OR,OX;have a:=bf w;go_step;refine ag ?_;refine ah ?_;refine an ?_;go_step;refine ag ?_;refine ah ?_;refine pk (ak au) ?_;refine ah ?_;refine an ?_;go_step;refine ag ?_;refine v3 ?_;refine iK (La f c) a.only ?_;refine ah ?_;refine an ?_;go_step;refine ag ?_;refine ah ?_;refine cb (ak aB) ?_;refine ah ?_;iterate 6 refine ps ?_
   refine pk (ak aB) ?_;refine ah ?_;refine an ?_;go_step;refine ag ?_;refine ah ?_;refine an ?_;go_wp2_with fail;go_ret;exact⟨aa,a.only⟩
  .by_cases h1:(d.cnt:Int)<=i
   .have b:j9 d i=2:=by grind[j9]
    rw[b];clear b;have c:=hid cZ;clear cZ;go_enter OR,OX;have a:=bf w;go_step;refine ag ?_;refine ah ?_;refine an ?_;go_step;refine ag ?_;refine ah ?_;refine pk (ak au) ?_;refine ah ?_;refine an ?_;go_step;refine ag ?_;refine v3 ?_;refine iK (La f c) a.only ?_;refine ah ?_;refine an ?_;go_step;refine ag ?_;refine ah ?_;refine cb (ak au) ?_;refine v5 ?_;refine a6 (Rn B m d _ (aW.aH f a.only) h) ?_;rintro e w1 ⟨rfl,g⟩;replace a:=a.aH g;refine ba ?_;refine cb (ak aB) ?_;refine pk (ak aB) ?_;refine ah ?_;refine an ?_;go_step;refine ag ?_;refine ah ?_;refine an ?_;go_wp2_with fail;go_ret;exact⟨aa,a.only⟩
   .have b:j9 d i=0:=by grind[j9]
    rw[b];clear b;have c:=hid cZ;clear cZ;go_enter OR,OX;have a:=bf w;go_step;refine ag ?_;refine ah ?_;refine an ?_;go_step;refine ag ?_;refine ah ?_;refine pk (ak au) ?_;refine ah ?_;refine an ?_;go_step;refine ag ?_;refine v3 ?_;refine iK (La f c) a.only ?_;refine ah ?_;refine an ?_;go_step;refine ag ?_;refine ah ?_;refine cb (ak au) ?_;refine v5 ?_;refine a6 (Rn B m d _ (aW.aH f a.only) h) ?_;rintro e k ⟨rfl,g⟩;replace a:=a.aH g;refine ba ?_;refine cb (ak au) ?_;refine pk (ak au) ?_;refine ah ?_;refine an ?_;go_step;refine ag ?_;refine ah ?_;refine an ?_;go_wp2_with fail;go_ret;exact⟨aa,a.only⟩
 .have b:j9 d i=18:=by grind[j9]
  rw[b];clear b;have c:=hid cZ;clear cZ;go_enter OR,OX;have a:=bf w;go_step;refine ag ?_;refine ah ?_;refine an ?_;go_step;refine ag ?_;refine ah ?_;refine pk (ak au) ?_;refine ah ?_;refine an ?_;go_step;refine ag ?_;refine v3 ?_;refine iK (La f c) a.only ?_;refine ah ?_;refine an ?_;go_step;refine ag ?_;refine ah ?_;refine an ?_;go_wp2_with fail;go_ret;exact⟨aa,a.only⟩
section
open Go.RowKit Go.MapKept Go.WideMaps
def ack:sj ax 3 Ee db:=
 ⟨Maps.int_keyed j2,λh=>⟨_,Maps.keyOf_int_mk j2 (WalkArith.wf_i64 h)⟩,λh=>by grind[Ee]⟩
def GY{w}{B t:Nat}{bs}(h:aW w B (aX a8 bs []) t):bR w (ab ⟨B,0,af⟩) bs:=λ_=>⟨B,0,rfl,λj a=>by rw[kV];exact h.cell j (KK a)⟩
def Has.Y4{w B m d}(h:Has w (aN B m d)):aW w m.cB (aX a8 d.bytes []) 5:=h.1.2.2.1.1
def Has.last{w B m d}(h:Has w (aN B m d)):(jM m.e1 (d.cache.map (·.1))).p w:=h.1.2.2.1.2.1.1
def Has.row{w B m d}(h:Has w (aN B m d)):Row 0 w m.A m.L.length m.c oj 2 (l4 m.L):=h.1.2.2.1.2.1.2.1.1
def Has.as2{w B m d}(h:Has w (aN B m d)):∀x∈m.L,e2 0 w x.A x.c x.bs:=h.1.2.2.1.2.1.2.1.2.1
def Has.plain{w B m d}(h:Has w (aN B m d)):d.cache=m.plain:=h.1.1
section
variable {o:cR} {a:bT} {w:aM}
def UG:∀w:aM,(zeroValue 3).run ax w=a7 (J R 0) w:=λw=>T9 aw w
def adi{m x}{b i:Nat}{l}(j:o.op=.lookup 118 m x aB)(g:a.eval m=dE (ab b))(hx:a.eval x=J R (i:Int))(h:(jM b l).p w)(hi:i<=1073741824):
 (bt a.eval o).run ax w=a7 (c8 (bg #[((sV l i).map (λk=>J R (k:Int))).getD (J R 0),ak (sV l i).isSome])) w:=by
 obtain⟨n,f,_,d⟩:=h;have c:=(f.lookup ack uN UG (x:=(i:Int)) ⟨ae,ae⟩).2;rw[d i]at c;unfold bt;simp only[j,g,hx];have e:(Ee (i:Int))=J R (i:Int):=rfl;rw[e]at c;simp only[gj,c,ji,jR];cases sV l i<;>rfl
end
def amB B m d w(h:Has w (aN B m d))(f:dR d):
 aD ax 15 #[dh B] w λe w'=>∃b c,e=aA (ad b d.bytes.length c)/\b3 w w' (cc b c d.bytes):=by
 have hb:=h.dev;have j:aE (∀W,aq w W->bR W (ab ⟨m.cB,0,af⟩) d.bytes):=hid (λW g=>(GY h.Y4).aH g);have hsm:d.bytes.length<=1048576:=by rw[f.len];exact f.small
 go_enter func15,ntmps15;have a:=bf w;go_step;refine ag ?_;refine ah ?_;refine an ?_;go_step;refine ag ?_;refine ah ?_;refine aI (ak au) (by(show _=_;kernel_rfl)) ?_;refine an ?_;go_step;refine ag ?_;iterate 4 refine ah ?_
 refine aI (ad (ab ⟨m.cB,0,af⟩) d.bytes.length d.bytes.length) (fy aa aa (aW.aH hb a.only) aa aw) ?_;refine a6 (wW (ab ⟨m.cB,0,af⟩) d.bytes.length d.bytes _ (j _ a.only) ae) ?_;rintro e w1 ⟨i,k,rfl,hrow,g⟩;replace a:=a.js g (Row.nV hrow);refine ba ?_;refine ah ?_;refine an ?_;go_wp2_with fail;go_ret;exact⟨i,k,aa,a.fresh 0⟩
def Rp B m d w(b:Has w (aN B m d)):
 aD ax 21 #[dh B] w λe w'=>e=aA (av #[J R d.er,J R d.eZ,J R d.iq,J R d.hi,J R d.cW])/\aq w w':=by
 have hb:=b.dev;go_enter func21,ntmps21;have a:=bf w;go_step;refine ag ?_;refine bx a #[J R 0,J R 0,J R 0,J R 0,J R 0] (λc w1 a=>?_);refine b4 ?_;refine pk (ak au) ?_;refine jt ?_;refine aI (av #[J R d.er,J R d.eZ,J R d.iq,J R d.hi,J R d.cW]) (mg (cs':=#[J R d.er,J R d.eZ,J R d.iq,J R d.hi,J R d.cW]) aa aa (aW.aH hb a.only) aw (of_decide_eq_true aw) aw aw) ?_;refine a' a 0 (av #[J R d.er,J R d.eZ,J R d.iq,J R d.hi,J R d.cW]) (λf a=>?_);refine an ?_;go_wp2_with fail;refine dn (v:=_) (jd aa _ _ _ _ _ _ _ aa (a.aZ 0) underlying68 aa aw) aa (⟨aa,a.only⟩)
def mO(d:dL)(i:Nat):List Int:=match sV (d.cache.map (·.1)) i with|some k=>((d.cache[k]?).map (·.2)).getD []|none=>(d.bytes.drop (i*d.size)).take d.size
theorem IM{d}(h:dR d){i}(hi:i<d.cnt):(mO d i).length=d.size:=by
 unfold mO;cases hq:sV (d.cache.map (·.1)) i with
 |some k=>
  have h1:=acp hq;rw[kB]at h1;cases hk:d.cache[k]? with
  |none=>grind
  |some x=>simpa [hk]using(h.cache x (cL hk)).2
 |none=>
  have h1:(i+1)*d.size<=d.cnt*d.size:=tH _ hi;rw[Nat.add_mul,Nat.one_mul]at h1;have:=h.len;simp;omega
def Y2{w B m d A}(h:aW w B (pO m d) 120)(e:m.A=A):aW w B #[J R (d.size:Int),ad (ab ⟨m.cB,0,af⟩) d.bytes.length d.bytes.length,J R d.writes,J aG d.keep,J R d.er,J R d.eZ,J R d.iq,J R d.hi,J R d.cW,ad A m.L.length m.c,dE (ab m.e1),ak d.down] 120:=by subst e;exact h
def Rm{d i}(h:j9 d i=0):∃n:Nat,i=n/\n<d.cnt:=by
 unfold j9 at h;split at h;·omega
 .split at h;·omega
  .exact⟨i.toNat,ae,ae⟩
def Y5 B m d i w(f:Has w (aN B m d))(j:dR d):
 aD ax 209 #[dh B,J R i] w λe w'=>(j9 d i≠0/\e=aA (bg #[ad af 0 0,J R (j9 d i)])/\aq w w')\/(j9 d i=0/\∃n:Nat,i=n/\n<d.cnt/\∃s v,e=aA (bg #[ad s d.size v,J R 0])/\b3 w w' (cc s v (mO d n))):=by
 have hb:=f.dev;have F:=hid hb;clear hb;have C:aE (∀W,aq w W->aD ax 281 #[dh B,J R i] W λe w'=>e=aA (J R (j9 d i))/\aq W w'):=hid (λW g=>Rl B m d i W (f.aH g).dev j);obtain⟨bo,r⟩:=ex (j9 d i);rw[r]at C;by_cases K:bo=0
 .subst K;obtain⟨n,rfl,o⟩:=Rm r;have t:=hid r;clear r;have fC:=j.BJ;have hsm:d.bytes.length<=1048576:=by rw[j.len];exact j.small
  have I:aE (∀W,aq w W->(jM m.e1 (d.cache.map (·.1))).p W):=hid (λW g=>(jM _ _).only f.last (λb hb=>by have Y:b=m.e1:=hb;rw[Y];obtain⟨bj,HQ,_⟩:=f.last;exact HQ.lt) g (λ_ _ h=>h));rcases hq:sV (d.cache.map (·.1)) n with _|k
  .have hr:mO d n=(d.bytes.drop (n*d.size)).take d.size:=by rw[mO,hq]
   have D:=hid hr;clear hr;have G:=hid hq;clear hq;have hle:n*d.size+d.size<=d.bytes.length:=by have h1:=tH d.size o;rw[vm]at h1;rw[j.len];exact h1
   have U:aE (∀W,aq w W->bR W (fE (ab ⟨m.cB,0,af⟩) d.bytes.length (n*d.size) 1) (mO d n)):=hid (λW g=>by have h:=bR.win ((GY f.Y4).aH g) (cm _) (i:=n*d.size) (q:=n*d.size+d.size) hle;rw[tG]at h;rw[D];exact h);have u:=hid (IM j o);go_enter Vp,VT;have a:=bf w;go_step;refine ag ?_;refine v2 ?_;refine ja ?_;refine bA (C.out _ a.only) a (λw1 a=>?_);refine cJ ?_;refine pk (ak au) ?_;refine jt ?_;refine iK F.out a.only ?_;refine ah ?_;refine aI (bg #[J R 0,ak au]) (by(refine(adi (x:=bb 20) (m:=bb 19) aa aa aa (I _ a.only) (i:=n) ae).trans ?_;rw[G];rfl)) ?_;refine v5 ?_;refine ag ?_;refine AV ?_;refine bA (Y6 B m d n o _ (f.aH a.only).dev j) a (λaR a=>?_);refine a6 ((by have q:=wW (fE (ab ⟨m.cB,0,af⟩) d.bytes.length (n*d.size) 1) (d.bytes.length -n*d.size) (mO d n) _ (U.out _ a.only) (by rw[u];omega);rw[u.out]at q;exact q)) ?_;rintro e bL ⟨Q,X,rfl,hrow,g⟩;replace a:=a.js g (Row.nV (by rw[u.out];exact hrow));refine ba ?_;refine dP ?_;go_wp2_with fail;go_ret2;exact b1 ⟨t,n,aa,o,Q,X,aa,a.fresh 0⟩
  .have z:=acp hq;rw[kB]at z;obtain⟨y,l⟩:∃y,m.L[k]?=ab y:=by rw[f.plain,ny.plain,kB]at z;cases l:m.L[k]? with|none=>(rw[l]at z;cases z)|some y=>exact⟨y,aa⟩
   have hr:mO d n=y.bs:=by unfold mO;rw[hq,f.plain];simp[ny.plain,l]
   have D:=hid hr;clear hr;have G:=hid hq;have na:=hid l;have Z:k<m.L.length:=(List.getElem?_eq_some_iff.1 l).1;have O:=f.as2 y (cL l);have hlen:y.bs.length=d.size:=by rw[<-D];exact IM j o
   have eU:m.L.length<=1073741824:=by have h:=j.ek;rw[f.plain,ny.plain,gU]at h;exact h
   obtain⟨E,M,hc1⟩:=f.row.cell (Q0 l).2;have S:aE (∀W,aq w W->W.cell? ⟨E,k*2+1,af⟩=ab (ad y.A d.size y.c)):=hid (λW g=>by rw[<-hlen];exact g.cell hc1 (λh=>h));have T:aE (∀W,aq w W->aD ax 65 #[ad y.A d.size y.c] W λe w'=>∃s v,e=aA (ad s d.size v)/\w'.ownsRow W.heap.size 5 1 (ad s d.size v) d.size ((mO d n).map a8)/\aq W w'):=hid (λW g=>by have q:=wW y.A y.c y.bs W (O.1.aH g) ae;rw[hlen]at q;rw[D];exact q);have u:=hid (IM j o);have H:=hid M;clear hq l z O hc1 hlen M;go_enter Vp,VT;have a:=bf w;go_step;refine ag ?_;refine v2 ?_;refine ja ?_;refine bA (C.out _ a.only) a (λca a=>?_);refine cJ ?_;refine pk (ak au) ?_;refine jt ?_;refine iK (Y2 F.out H.out) a.only ?_;refine ah ?_;refine aI (bg #[J R (k:Int),ak aB]) (by(refine(adi (x:=bb 20) (m:=bb 19) aa aa aa (I _ a.only) (i:=n) ae).trans ?_;rw[G];rfl)) ?_;refine v5 ?_;refine ag ?_;refine UJ ?_;refine iK (Y2 F.out H.out) a.only ?_;refine ah ?_;refine aI (ay (ab ⟨E,(k*2),af⟩)) (cH 117 258 2 (bb 28) (bb 29) aa Tryz.underlying117 aw E 0 (m.L.length) (m.c) k ((k*2)) aa aa Z ae) ?_;refine aI (ay (ab ⟨E,(k*2+1),af⟩)) (by(go_simp;try simp[Addr.add])) ?_;refine aI (ad y.A d.size y.c) (by(have h:=S _ a.only;go_simp)) ?_;refine a6 (T _ a.only) ?_;rintro e cF ⟨P,V,rfl,hrow,g⟩;replace a:=a.js g (Row.nV (by rw[u.out];exact hrow));refine ba ?_;refine dP ?_;go_wp2_with fail;go_ret2;exact b1 ⟨t,n,aa,o,P,V,aa,a.fresh 0⟩
 .have N:¬bo=0:=K;have t:=hid r;clear r;go_enter Vp,VT;have a:=bf w;go_step;refine ag ?_;refine v2 ?_;refine ja ?_;refine bA (C.out _ a.only) a (λc6 a=>?_);refine cJ ?_;refine aI (ak aB) (by(go_simp;try simp[N])) ?_;refine ag ?_;refine v3 ?_;refine an ?_;go_wp2_with fail;go_ret2;exact bH ⟨by rw[t];exact N,by rw[t];rfl,a.only⟩
end
section
open Go.RowKit Go.MapKept Go.WideMaps
open Go.ChangeMaps (setBlock heap_setBlock_same heap_setBlock_other)
def AD(size:Nat)(bs:List Int)(i:Nat)(b:List Int):List Int:=bs.take (i*size)++b++bs.drop (i*size+b.length)
def ato{size i bs b}(hb:b.length=size)(h:(i+1)*size<=bs.length):(AD size bs i b).length=bs.length:=by grind[AD]
def qT(d:dL)(a:Nat->Bool):Nat->List Int
 |0=>d.bytes
 |q+1=>match d.cache[q]? with
  |some x=>if a q=aB then AD d.size (qT d a q) x.1 x.2 else qT d a q
  |none=>qT d a q
def s4(d:dL)(a:Nat->Bool):dL:={d with bytes:=qT d a d.cache.length,cache:=[]}
theorem MY{d}(b:dR d)c:∀q,(qT d c q).length=d.bytes.length
 |0=>aa
 |q+1=>by
  have a:=MY b c q;unfold qT;split
  .rename_i x hx;split;·have h:=b.cache x (cL hx);rw[ato h.2 (by rw[a,b.len];exact tH _ h.1),a]
   .exact a
  .exact a
def TP{d}(a:dR d)b:dR (s4 d b):=
 ⟨a.mj,a.vr,(MY a b _).trans a.len,a.small,λx hx=>absurd hx ga,cQ _,a.wr⟩
theorem afF{B c i}(h:i<c):fE (ab ⟨B,0,af⟩) c i 1=ab ⟨B,i,af⟩:=by grind[fE,nG]
def Row.range{w}{N g n c e sz k:Nat}{A xs cs}(h:Row N w A n c e sz xs)(a:A=ab ⟨g,0,af⟩)(hk:∀j v,cs[j]?=ab v->xs[k+j]?=ab v):w.rangeAt g k cs:=λj v hv=>by obtain⟨g2,e,hc⟩:=h.cell (hk j v hv);rw[a]at e;cases e;exact hc
theorem akh{bs b size i}:((aX a8 bs []).toList.take (i*size)++b.map a8++(aX a8 bs []).toList.drop (i*size+b.length)).toArray=aX a8 (AD size bs i b) []:=by simp[aX,AD]
section
variable {P:eu} {o:cR} {a:bT} {w:aM}
def auu {d g} {b f c B off n cap c2 t:Nat} {aJ old new cs} (k:o.op=mU {callee:=n2 .copy,args:=#[d,g],argTypes:=#[b,f]}) (i:a.eval d=ad (ab ⟨B,off,af⟩) n cap) (m:a.eval g=ad aJ n c2) (e:aW w B old t) (hr:Cells w 1 aJ n cs) (j:0<n)
 (o3:off+n<=old.size) (h1:∀v∈cs,v.oneCell'=aB) (lS:(old.toList.take off++cs++old.toList.drop (off+cs.length)).toArray=new) (hu:P.underlying b=ab (hT c)) (hs:(P.info? c).map (·.size)=ab 1):
 ∃w',(bt a.eval o).run P w=a7 (c8 (J R (n:Int))) w'/\Turned w w' (ai B old t) (ai B new t):=by
 obtain⟨h,rfl,l⟩:=hr.2 j;have hcs:cs.length=n:=by simpa using hr.1
 have hr:=JX (P:=P) w b f o.type c B off n cap h n c2 old t cs hu hs e aF l ae h1;refine⟨w.setRow B (old.toList.take off++cs++old.toList.drop (off+n)).toArray,?_,vq (ar.setRow w B _) ?_⟩;·unfold bt;simp only[k,mX,mW,pv,gj,jR,ji,og,jx,kC,i,m,hr,hcs];rfl
 .rw[<-lS,hcs];exact e.setRow _
def aut{x}{t k e b:Nat}{l}(d:o.op=mU {callee:=n2 .clear,args:=#[x],argTypes:=#[t]})(hx:a.eval x=dE (ab b))(f:P.underlying t=ab (.map k e))(h:(jM b l).p w):
 ∃w',(bt a.eval o).run P w=a7 (c8 (bg #[])) w'/\Turned w w' (jM b l) (jM b []):=by
 obtain⟨j,⟨es,c,hb,_⟩,_⟩:=h
 refine⟨kR w b _,?_,⟨aa,aa,aa,by simp[kR],λi _ hi=>heap_setBlock_other hb _ (λe=>hi (by rw[e];rfl))⟩,⟨[],⟨_,_,heap_setBlock_same hb _,stamped_empty c,aT,aT,aT⟩,cm _,λi=>rfl⟩,λi hi=>⟨by have g:i=b:=hi;grind[kR],bH hi⟩⟩;unfold bt;simp[d,mX,mW,pv,hx,Builtin.clear_,gF f,MapKept.run_getObj_map hb,MapKept.run_setObj_map _ hb,Result.andThen,kR]
end
def Ro B m d (g:Nat) lb f w (p:Has w (aN B m d)) (k:dR d) (F:∀args w,(callFunc g args).run ax w=a7 (.enter g args) w)
 (hk:∀q W,q<m.L.length->ar (aN B m d).c5 w W->aW W B (pO m d) 120->aD ax g (#[J R (q:Int)]++lb) W λe w'=>e=aA (ak (f q))/\aq W w'):
 aD ax 63 #[dh B,dJ (ej g) #[] lb] w λe w'=>e=aA (bg #[])/\∃T,Turned w w' (aN B m d) (aN B T (s4 d f)):=by
 obtain⟨cB,e1,A,c,L⟩:=m;have X:L.length<=1073741824:=by have h:=k.ek;rw[p.plain,ny.plain,gU]at h;exact h
 have hpl:d.cache=L.map (λx=>(x.sec,x.bs)):=p.plain;have C:=hid hpl;have y:aE (∀q W,q<L.length->ar (aN B ⟨cB,e1,A,c,L⟩ d).c5 w W->aW W B #[J R (d.size:Int),ad (ab ⟨cB,0,af⟩) d.bytes.length d.bytes.length,J R d.writes,J aG d.keep,J R d.er,J R d.eZ,J R d.iq,J R d.hi,J R d.cW,ad A L.length c,dE (ab e1),ak d.down] 120->aD ax g (#[J R (q:Int)]++lb) W λe w'=>e=aA (ak (f q))/\aq W w'):=hid hk;have t:=hid F;clear hk F hpl;go_enter func63,ntmps63;have a:aj w (aN B ⟨cB,e1,A,c,L⟩ d).c5 w [ai B #[J R (d.size:Int),ad (ab ⟨cB,0,af⟩) d.bytes.length d.bytes.length,J R d.writes,J aG d.keep,J R d.er,J R d.eZ,J R d.iq,J R d.hi,J R d.cW,ad A L.length c,dE (ab e1),ak d.down] 120,ai cB (aX a8 (d.bytes) []) 5,jM e1 (d.cache.map (·.1)),bn A L.length c 258 2 (l4 L),lZ L]:=(aj.zW (aj.start p)).2;go_upto_region 0 with fail;refine cM ?_;refine v3 ?_;refine pl a 0 9 ?_;refine dP ?_;go_wp2_with fail;go_loopw [11] (λr wr=>∃q:Nat,q<=L.length/\r=J R q/\aj w (aN B ⟨cB,e1,A,c,L⟩ d).c5 wr [ai B #[J R (d.size:Int),ad (ab ⟨cB,0,af⟩) d.bytes.length d.bytes.length,J R d.writes,J aG d.keep,J R d.er,J R d.eZ,J R d.iq,J R d.hi,J R d.cW,ad A L.length c,dE (ab e1),ak d.down] 120,ai cB (aX a8 (qT d f q) []) 5,jM e1 (d.cache.map (·.1)),bn A L.length c 258 2 (l4 L),lZ L]) (λr wr=>L.length -(cw r).toNat);case atStart=>exact⟨0,ae,aa,a⟩
 case round=>
  clear a;obtain⟨q,Z,rfl,a⟩:=hrel;by_cases hlt:q<L.length
  .have P:(q:Int)<(L.length:Int):=ae;obtain⟨x,hx⟩:∃x,L[q]?=ab x:=⟨_,cj hlt⟩;obtain⟨O,G,_⟩:=(a.atR 3).cell (Q0 hx).1;have H:d.cache[q]?=ab (x.sec,x.bs):=by rw[C,kB,hx];rfl
   have Q:=k.cache _ (cL H);obtain⟨o,n⟩:=Q;have o:x.sec<d.cnt:=o;have n:x.bs.length=d.size:=n;have S:=cL hx;have z:aE (qT d f (q+1)=if f q=aB then AD d.size (qT d f q) x.sec x.bs else qT d f q):=hid (by grind[qT]);have D:=hid (Q0 hx);have E:=hid n;have s:=hid G;have Y:x.sec*d.size+d.size<=d.bytes.length:=by have h1:=tH d.size o;rw[vm]at h1;rw[k.len];exact h1
   have hs1:=k.mj;have N:aE (∀W,aW W B #[J R (d.size:Int),ad (ab ⟨cB,0,af⟩) d.bytes.length d.bytes.length,J R d.writes,J aG d.keep,J R d.er,J R d.eZ,J R d.iq,J R d.hi,J R d.cW,ad A L.length c,dE (ab e1),ak d.down] 120->aD ax 146 #[dh B,J R (x.sec:Int)] W λe w'=>e=aA (ad (ab ⟨cB,x.sec*d.size,af⟩) d.size (d.bytes.length -x.sec*d.size))/\aq W w'):=hid (λW h=>by have q:=Y6 B ⟨cB,e1,A,c,L⟩ d x.sec o W h k;grind[afF]);clear H hx n G;go_upto_region 2 with fail;refine cM ?_;refine ah ?_;refine aI _ (cH _ 258 2 _ _ aa Tryz.underlying117 aw _ _ _ c q ((q*2)) (by show ad A _ _=_;rw[s]) aa hlt ae) ?_;refine aI (av #[J R (x.sec:Int),ad x.A d.size x.c]) (by(refine e6 258 (bb 14) aa O (q*2) aa [J R (x.sec:Int),ad x.A d.size x.c] (Row.range (a.atR 3) s (λj v I=>?_)) underlying258 aa aw;obtain rfl|rfl|V:j=0\/j=1\/2<=j:=ae;(cases I;exact D.1);(cases I;rw[<-E];exact D.2);grind)) ?_;refine bx a #[J R 0,ad af 0 0] (λU w1 a=>?_);refine ah ?_;refine a' a 0 (av #[J R (x.sec:Int),ad x.A d.size x.c]) (λaR a=>?_);refine an ?_;rcases Ah:f q with _|_
   .have l:=hid Ah;clear Ah;refine ja ?_;refine bA ((by have h:=y.out q _ hlt a.only (a.aZ 1);rw[l.out]at h;exact h)) a (λbL a=>?_) (hr:=by(go_simp;exact t _ _));refine ag ?_;refine pad (q:Int) 1 ((q+1:Nat):Int) ?_;refine bP ?_;go_wp2_with fail;go_roundw;case rel=>exact⟨q+1,ae,aa,by rw[z,l];exact a.pick [1,2,3,4,5]⟩
    case measure=>grind[cw]
   .have l:=hid Ah;clear Ah;refine ja ?_;refine bA ((by have h:=y.out q _ hlt a.only (a.aZ 1);rw[l.out]at h;exact h)) a (λca a=>?_) (hr:=by(go_simp;exact t _ _));refine ct ?_;refine bN a [5,8] (λi _=>match i with|5=>ad (ab ⟨cB,x.sec*d.size,af⟩) d.size (d.bytes.length -x.sec*d.size)|8=>J R (d.size:Int)|_=>aY) (λ_=>λ|8=>ai cB (aX a8 (AD d.size (qT d f q) x.sec x.bs) []) 5|_=>emp) (λ|8=>[2]|_=>[]) (λ|4=>[0]|5=>[1]|7=>[0]|8=>[5]|_=>[]) (λ_=>[]) [0,1,3,4,5,11,14] (λus=>?_);refine iw ?_;refine dl 0 0 ?_;refine dD (λ_ _ a=>N _ (a.aZ 0)) ?_;refine aK ?_;refine dl 0 1 ?_;refine D' (J R (d.size:Int)) (λ_ _ a=>auu aa aa aa (a.aZ 0) (by have h:=((a.at 1:∀x∈L,e2 0 _ x.A x.c x.bs) x S).1.cells;rw[E.out]at h;exact h) k.mj (by grind[j7,MY]) (vT _) (show _=aX a8 (AD d.size (qT d f q) x.sec x.bs) []from by grind[akh]) dI aw) ?_;refine bQ λcF a=>?_;replace a:=a.drop 5;refine ag ?_;refine pad (q:Int) 1 ((q+1:Nat):Int) ?_;refine bP ?_;go_wp2_with fail;go_roundw;case rel=>exact⟨q+1,ae,aa,by rw[z,l];exact a.pick [1,5,2,3,4]⟩
    case measure=>grind[cw]
  .have P:¬(q:Int)<(L.length:Int):=ae;obtain rfl:q=L.length:=ae;go_upto_region 6 with fail;refine cM ?_;refine v3 ?_;refine a' a 0 (ad af 0 0) (λc6 a=>?_);refine jt ?_;refine pl a 0 10 ?_;refine CG a 2 (aut aa aa uN (a.at 2)) (λdW a=>?_);refine an ?_;replace a:=(((a.drop 4).drop 3).new (lZ []) ⟨ar.refl _ _,λx hx=>absurd hx ga,λb ⟨x,hx,_⟩=>absurd hx ga⟩).new (bn af 0 0 oj 2 []) ⟨ar.refl _ _,Row.nil _ _ _ _,λb ⟨_,_,e⟩=>aF⟩;have M:=hid (show s4 d f={d with bytes:=qT d f L.length,cache:=[]}from by rw[s4,C,gU]);have u:=a.pk [2,3,4,0,1];have hbl:=MY k f L.length;rw[<-hbl]at u;have K:=aj.vu (B:=B) (m:=⟨cB,e1,af,0,[]⟩) (d:={d with bytes:=qT d f L.length,cache:=[]}) aa u;go_wp2_with fail;first|go_end0|refine bodyPost_ret (results_none rfl _ _ _) rfl ?_
   exact⟨aa,_,by rw[M.out];exact K.gi 0⟩
end
open Go.RowKit Go.MapKept Go.WideMaps
open Go.ChangeMaps (setBlock heap_setBlock_same heap_setBlock_other)
def aqO q w:
 aD ax 327 #[J R q] w λe w'=>e=aA (ak aB)/\aq w w':=by
 go_enter Tryz.func327,ntmps327;have a:=bf w;go_step;refine ag ?_;refine ah ?_;refine ag ?_;refine ah ?_;refine an ?_;go_wp2_with fail;go_ret;exact⟨aa,a.only⟩
def aqQ q w:
 aD ax 64 #[J R q] w λe w'=>e=aA (ak au)/\aq w w':=by
 go_enter Tryz.func64,ntmps64;have a:=bf w;go_step;refine ag ?_;refine ah ?_;refine ag ?_;refine ah ?_;refine an ?_;go_wp2_with fail;go_ret;exact⟨aa,a.only⟩
def l9(d:dL):Int×dL:=if j9 d 0≠0 then(j9 d 0,d)else(0,{s4 d (λ_=>aB)with eZ:=R.wrap ((s4 d (λ_=>aB)).eZ+1)})
def Y3 B m d w(p:Has w (aN B m d))(o:dR d):
 aD ax 292 #[dh B] w λe w'=>e=aA (J R (l9 d).1)/\∃k,Turned w w' (aN B m d) (aN B k (l9 d).2):=by
 obtain⟨bo,i⟩:=ex (j9 d 0);have l:aE (∀W,aW W B (pO m d) 120->aD ax 281 #[dh B,J R 0] W λe w'=>e=aA (J R bo)/\aq W w'):=hid (λW h=>by have q:=Rl B m d 0 W h o;rw[i]at q;exact q);by_cases n:bo=0;·subst n;have g:aE (l9 d=(0,{s4 d (λ_=>aB)with eZ:=R.wrap ((s4 d (λ_=>aB)).eZ+1)})):=hid (by grind[l9]);clear i;go_enter Tryz.func292,Tryz.ntmps292;have f:=aj.start p;go_step;refine ag ?_;refine cJ ?_;refine bA (l.out _ (f.has 0).dev) f (λw1 f=>?_);refine cJ ?_;refine pk (ak au) ?_;refine an ?_;obtain⟨a,j⟩:=ex (s4 d (λ_=>aB));rw[j]at g;have r:aE (∀W,Has W (aN B m d)->aD ax 63 #[dh B,dJ (ej 327) #[] #[]] W λe w'=>e=aA (bg #[])/\∃k,Turned W w' (aN B m d) (aN B k a)):=hid (λW h=>by have q:=Ro B m d _ #[] (λ_=>aB) W h o (ll Tryz.func327 aw aa) (λq W _ _ _=>aqO q W);rw[j]at q;exact q);clear j;refine b4 ?_;refine a6 (r.out _ (f.has 0)) ?_;rintro e u ⟨rfl,b,s⟩;replace f:=f.eF 0 s;refine AU ?_;replace f:=f.zW;obtain⟨hpl,f⟩:=f;replace f:aj _ _ _ [ai B #[J R (a.size:Int),ad (ab ⟨b.cB,0,af⟩) a.bytes.length a.bytes.length,J R a.writes,J aG a.keep,J R a.er,J R a.eZ,J R a.iq,J R a.hi,J R a.cW,ad b.A b.L.length b.c,dE (ab b.e1),ak a.down] 120,ai b.cB (aX a8 a.bytes []) 5,jM b.e1 (a.cache.map (·.1)),bn b.A b.L.length b.c oj 2 (l4 b.L),lZ b.L]:=f;refine oM ?_;refine pl f 0 5 ?_;refine pk (J R (R.wrap (a.eZ+1))) ?_;refine v3 ?_;refine a' f 0 (J R (R.wrap (a.eZ+1))) (λv f=>?_);refine ag ?_;refine ah ?_;refine an ?_;replace f:aj _ _ _ (aN B b ({a with eZ:=R.wrap (a.eZ+1)})::[]):=aj.vu hpl (f.pick (l':=[ai B #[J R (a.size:Int),ad (ab ⟨b.cB,0,af⟩) a.bytes.length a.bytes.length,J R a.writes,J aG a.keep,J R a.er,J R (R.wrap (a.eZ+1)),J R a.iq,J R a.hi,J R a.cW,ad b.A b.L.length b.c,dE (ab b.e1),ak a.down] 120,ai b.cB (aX a8 a.bytes []) 5,jM b.e1 (a.cache.map (·.1)),bn b.A b.L.length b.c oj 2 (l4 b.L),lZ b.L]) [0,1,2,3,4]);go_wp2_with fail;go_ret;exact⟨by rw[g];rfl,b,by rw[g];exact f.gi 0⟩
 .have t:¬bo=0:=n;have g:aE (l9 d=(bo,d)):=hid (by grind[l9]);clear i;go_enter Tryz.func292,Tryz.ntmps292;have f:=aj.start p;go_step;refine ag ?_;refine cJ ?_;refine bA (l.out _ (f.has 0).dev) f (λx f=>?_);refine cJ ?_;refine aI (ak aB) (by(go_simp;try simp[t])) ?_;refine ag ?_;refine dP ?_;go_wp2_with fail;go_ret;exact⟨by rw[g];rfl,m,by rw[g];exact f.gi 0⟩
def sB(d:dL)(n a:Int):dL:={d with writes:=max n (-1),keep:=a}
def amz B m d(n b)w(f:Has w (aN B m d)):
 aD ax 11 #[dh B,J R n,J aG b] w λe w'=>e=aA (bg #[])/\Turned w w' (aN B m d) (aN B m (sB d n b)):=by
 go_enter func11,ntmps11;have a:=aj.start f;go_step;refine ag ?_;refine ah ?_;refine pk (ak aB) ?_;refine an ?_;replace a:=a.zW;obtain⟨hpl,a⟩:=a;replace a:aj _ _ _ [ai B #[J R (d.size:Int),ad (ab ⟨m.cB,0,af⟩) d.bytes.length d.bytes.length,J R d.writes,J aG d.keep,J R d.er,J R d.eZ,J R d.iq,J R d.hi,J R d.cW,ad m.A m.L.length m.c,dE (ab m.e1),ak d.down] 120,ai m.cB (aX a8 d.bytes []) 5,jM m.e1 (d.cache.map (·.1)),bn m.A m.L.length m.c oj 2 (l4 m.L),lZ m.L]:=a;refine ja ?_;refine aI (J R (max n (-1))) (by(go_simp;try with_reducible rfl)) ?_;refine v4 ?_;refine a' a 0 (av #[J R (max n (-1)),J aG b]) (λw1 a=>?_);refine an ?_;replace a:aj _ _ _ (aN B m (sB d n b)::[]):=aj.vu hpl (a.pick (l':=[ai B #[J R (d.size:Int),ad (ab ⟨m.cB,0,af⟩) d.bytes.length d.bytes.length,J R (max n (-1)),J aG b,J R d.er,J R d.eZ,J R d.iq,J R d.hi,J R d.cW,ad m.A m.L.length m.c,dE (ab m.e1),ak d.down] 120,ai m.cB (aX a8 d.bytes []) 5,jM m.e1 (d.cache.map (·.1)),bn m.A m.L.length m.c oj 2 (l4 m.L),lZ m.L]) [0,1,2,3,4]);go_wp2_with fail;first|go_end0|refine bodyPost_ret (results_none rfl _ _ _) rfl ?_
 exact⟨aa,a.gi 0⟩
def uC(d:dL):dL:={s4 d (λ_=>au)with down:=au,writes:=-1}
def amP B m d w(o:Has w (aN B m d))(n:dR d):
 aD ax 14 #[dh B] w λe w'=>e=aA (bg #[])/\∃g,Turned w w' (aN B m d) (aN B g (uC d)):=by
 obtain⟨a,i⟩:=ex (s4 d (λ_=>au));have j:aE (uC d={a with down:=au,writes:=-1}):=hid (by grind[uC]);have k:aE (∀W,Has W (aN B m d)->aD ax 63 #[dh B,dJ (ej 64) #[] #[]] W λe w'=>e=aA (bg #[])/\∃g,Turned W w' (aN B m d) (aN B g a)):=hid (λW h=>by have q:=Ro B m d _ #[] (λ_=>au) W h n (ll Tryz.func64 aw aa) (λq W _ _ _=>aqQ q W);rw[i]at q;exact q);clear i;go_enter func14,ntmps14;have f:=aj.start o;go_step;refine ag ?_;refine ah ?_;refine pk (ak aB) ?_;refine b4 ?_;refine a6 (k.out _ (f.has 0)) ?_;rintro e w1 ⟨rfl,b,l⟩;replace f:=f.eF 0 l;refine AU ?_;replace f:=f.zW;obtain⟨hpl,f⟩:=f;replace f:aj _ _ _ [ai B #[J R (a.size:Int),ad (ab ⟨b.cB,0,af⟩) a.bytes.length a.bytes.length,J R a.writes,J aG a.keep,J R a.er,J R a.eZ,J R a.iq,J R a.hi,J R a.cW,ad b.A b.L.length b.c,dE (ab b.e1),ak a.down] 120,ai b.cB (aX a8 a.bytes []) 5,jM b.e1 (a.cache.map (·.1)),bn b.A b.L.length b.c oj 2 (l4 b.L),lZ b.L]:=f;refine jt ?_;refine a' f 0 (ak au) (λp f=>?_);refine oM ?_;refine a' f 0 (J R (-1)) (λr f=>?_);refine an ?_;replace f:aj _ _ _ (aN B b ({a with down:=au,writes:=-1})::[]):=aj.vu hpl (f.pick (l':=[ai B #[J R (a.size:Int),ad (ab ⟨b.cB,0,af⟩) a.bytes.length a.bytes.length,J R (-1),J aG a.keep,J R a.er,J R a.eZ,J R a.iq,J R a.hi,J R a.cW,ad b.A b.L.length b.c,dE (ab b.e1),ak au] 120,ai b.cB (aX a8 a.bytes []) 5,jM b.e1 (a.cache.map (·.1)),bn b.A b.L.length b.c oj 2 (l4 b.L),lZ b.L]) [0,1,2,3,4]);go_wp2_with fail;first|go_end0|refine bodyPost_ret (results_none rfl _ _ _) rfl ?_
 exact⟨aa,b,by rw[j];exact f.gi 0⟩
def EV(keep:Int)(q:Nat):Bool:=(aG.wrap ((nw 64 (keep.fdiv (2^(q%64)))&&& nw 64 1).toNat:Int)==1)
def aqP(f B)m d(q:Nat)w(k:q<=1073741824)(hx:aW w f #[ay (ab ⟨B,0,af⟩)] 32)(hb:aW w B (pO m d) 120):
 aD ax 359 #[J R (q:Int),ay (ab ⟨f,0,af⟩)] w λe w'=>e=aA (ak (EV d.keep q))/\aq w w':=by
 have g:q%64<=64:=ae;obtain⟨z,hz⟩:=ex (q%64);have c:EV d.keep q=(aG.wrap ((nw 64 (d.keep.fdiv (2^z))&&& nw 64 1).toNat:Int)==1):=by rw[EV,hz]
 obtain⟨j,b⟩:=ex ((aG.wrap ((nw 64 (d.keep.fdiv (2^z))&&& nw 64 1).toNat:Int)==1));rw[b]at c;rw[c];rw[hz]at g;have i:=hid hz;have h:=hid b;clear hz c b;go_enter Tryz.func359,ntmps359;have a:=bf w;go_step;refine ag ?_;refine dQ ?_;refine iK hx a.only ?_;refine v3 ?_;refine iK hb a.only ?_;refine ah ?_;refine aI _ (QS 3 _ _ 3 aa q 64 z aa aa ae i ae) ?_;refine aI _ (BD 42 _ _ 3 aa aG _ _ z aa aa g) ?_;refine pk (J aG (aG.wrap ((nw 64 (d.keep.fdiv (2^z))&&& nw 64 1).toNat:Int))) ?_;refine aI (ak j) (by(rw[<-h];show _=_;kernel_rfl)) ?_;refine bP ?_;go_wp2_with fail;go_ret;exact⟨aa,a.only⟩
def xF(d:dL)(n:Nat)(b:List Int):dL:={d with cache:=d.cache++[(n,b)],er:=R.wrap (d.er+1),hi:=max d.hi ((n:Int)+1),cW:=max d.cW ((d.cache.length+1:Nat):Int)}
def te(d:dL)(n:Nat)(b:List Int):dL:={xF d n b with writes:=d.writes -1}
def Je(d:dL)(n:Nat)(b:List Int):dL:={s4 (te d n b) (EV d.keep)with down:=aB,iq:=R.wrap (d.iq+1)}
def jC(d:dL)(i:Int)(b:List Int):Int×dL:=
 if j9 d i≠0 then(j9 d i,d)else if b.length≠d.size then(2,d)
 else if d.writes<0 then(0,xF d i.toNat b)else if 0<=d.writes -1 then(0,te d i.toNat b)else(18,Je d i.toNat b)
theorem afO{d}(h:dR d){n}(a:n<d.cnt){b}(hb:b.length=d.size)(c:d.cache.length<1073741824):dR (xF d n b):=
 ⟨h.mj,h.vr,h.len,h.small,λx hx=>by
   rcases jf.1 hx with hx|hx;·exact h.cache x hx
   .obtain rfl:x=(n,b):=aF;exact⟨a,hb⟩,by show(d.cache++[(n,b)]).length<=_;simp;omega,h.wr⟩
theorem Uv{d}(h:dR d){n}(e:n<d.cnt){b}(hb:b.length=d.size)(c:d.cache.length<1073741824)(f:0<=d.writes):dR (te d n b):=
 have h1:=afO h e hb c
 ⟨h1.mj,h1.vr,h1.len,h1.small,h1.cache,h1.ek,by have a:=h.wr;unfold db at a⊢;show _<=d.writes -1/\d.writes -1<=_;omega⟩
def Ux{d}(h:dR d)i b(c:d.cache.length<1073741824):dR (jC d i b).2:=by
 unfold jC;split;·omega
 .rename_i hc;obtain⟨n,rfl,e⟩:=Rm (C9 hc);split;·omega
  .rename_i hb;have hb:=C9 hb;split;·grind[afO]
   .rename_i f;split;·grind[Uv]
    .have a:=TP (Uv h e hb c ae) (EV d.keep);exact⟨a.mj,a.vr,a.len,a.small,a.cache,a.ek,a.wr⟩
def auz{o}{a:bT}{w m x v}{b i n:Nat}{l}(s:o.op=.mapUpdate 118 m x v)(q:a.eval m=dE (ab b))(hx:a.eval x=J R (i:Int))(hv:a.eval v=J R (n:Int))(r:l.length=n)(h:(jM b l).p w)(hi:i<=1073741824)(y:n<=1073741824):
 ∃w',(bt a.eval o).run ax w=a7 .skip w'/\Turned w w' (jM b l) (jM b (l++[i])):=by
 obtain⟨z,g,hle,u⟩:=h;subst r;obtain⟨w',hrun,h1,d,t⟩:=g.update ack uN (by grind[dN]) (x:=(i:Int)) ⟨ae,ae⟩ (J R (l.length:Int));have f:ar (λj=>j=b) w w':=ar.of_grownBy d (λk hk=>bH aF);refine⟨w',?_,f,⟨_,h1,?_,λj=>?_⟩,λj c=>⟨by have e:j=b:=c;rw[e];exact h1.lt,bH c⟩⟩;·unfold bt;simp only[s,q,hx,hv];have e:(Ee _)=J _ (i:Int):=rfl;rw[e]at hrun;simp[hrun]
 .grind[jY]
 .grind[Tl,aco]
def aj.as3{ao w FX l L A c bs}n(h:aj ao FX w (lZ L::cc A c bs::l)):aj ao FX w (lZ (L++[⟨n,A,c,bs⟩])::l):=
 h.star.as 0 aa (lZ (L++[⟨n,A,c,bs⟩])) (λh x hx=>by
  rcases jf.1 hx with hx|hx;·exact h.1 x hx
  .obtain rfl:x=⟨n,A,c,bs⟩:=aF;exact h.2.1) (λb ⟨x,hx,hb⟩=>by
  rcases jf.1 hx with hx|hx;·exact bH ⟨x,hx,hb⟩
  .obtain rfl:x=⟨n,A,c,bs⟩:=aF;exact b1 hb)
def amU B m d i F dB b w(V:Has w (aN B m d))(H:dR d)(hf:d.cache.length<1073741824)(hb:bR w F b)(gN:b.length<=140737488355328)(hne:∀x,dU F x->¬(aN B m d).c5 x):
 aD ax 326 #[dh B,J R i,ad F b.length dB] w λe w'=>e=aA (J R (jC d i b).1)/\∃X,Turned w w' (aN B m d) (aN B X (jC d i b).2):=by
 obtain⟨bo,G⟩:=ex (j9 d i);have O:=hid (λW h=>by have q:=Rl B m d i W h H;rw[G]at q;exact q);by_cases h0:bo=0
 .subst h0;obtain⟨n,rfl,hn⟩:=Rm G;have M:=hid G;clear G;have fC:=H.BJ;have hf2:=H.ek;have hw0:=H.wr;obtain⟨SV,hw2⟩:=hw0;by_cases hbl:b.length=d.size
  .have C:=hid hbl;clear hbl;have bV:aE (∀W,ar _ w W->bR W F b):=hid (λW g=>hb.only g (λx off e=>hne x ⟨_,_,e⟩));clear hb;obtain⟨ax7,Em⟩:=ex m.L.length;have gw:=hid Em;clear Em;go_enter VC,VZ;have a:=aj.start V;go_step;refine ag ?_;refine bM a (ay _) (λo w1 a=>?_);refine ah ?_;refine an ?_;replace a:=a.front 1;replace a:=a.zW;obtain⟨hpl,a⟩:=a;replace a:aj _ _ _ [ai B #[J R _,ad _ _ _,J R _,J aG _,J R d.er,J R d.eZ,J R d.iq,J R d.hi,J R d.cW,ad m.A _ m.c,dE _,ak _] 120,ai m.cB _ 5,jM m.e1 _,bn m.A _ m.c oj 2 _,lZ m.L,ai o #[ay _] 32]:=a;go_step;refine ag ?_;refine pl a 5 0 ?_;refine ah ?_;refine a6 (O _ (a.aZ 0)) ?_;rintro e aR ⟨rfl,g⟩;replace a:=a.aH g;refine ba ?_;refine ah ?_;refine an ?_;have e5:(d.cache.map (·.1)).length=m.L.length:=by rw[hpl,gU,ny.plain,gU]
   have RZ:d.cache.length=m.L.length:=by rw[hpl,ny.plain,gU]
   have je:=hid e5;have uV:=hid RZ;have ayT:m.L.length<1073741824:=ae;have iB:=hid hpl;clear e5 RZ hpl;go_step;refine ag ?_;refine ah ?_;refine pk (ak au) ?_;refine an ?_;go_step;refine ag ?_;refine v2 ?_;refine pl a 5 0 ?_;refine v3 ?_;refine pl a 0 0 ?_;refine dr C (ak au) ?_;refine an ?_;go_step;refine ct ?_;refine bN a [10] (λ_ _=>aY) (λ_=>λ|10=>jM m.e1 ((d.cache.map (·.1))++[n])|_=>emp) (λ|10=>[2]|_=>[]) (λ|0=>[5]|3=>[0]|5=>[5]|8=>[0]|_=>[]) (λ_=>[]) [0,1,3,4,5,16] (λf=>?_);refine dl 0 0 ?_;refine bp ?_;refine dl 0 10 ?_;refine aK ?_;refine dl 0 0 ?_;refine bp ?_;refine dl 0 9 ?_;refine aK ?_;refine K' (λ_ _ a=>auz aa aa aa aa je (a.at 0) ae ae) ?_;refine bQ λbL a=>?_;go_step;refine ct ?_;refine bN a [7,9,10,13] (λi u=>match i with|7=>ad u.A b.length u.c|9=>ad (ab ⟨u.b,0,af⟩) 1 1|10=>ad u.A (m.L.length+1) u.c|_=>aY) (λf=>λ|7=>cc ((f 7).A) ((f 7).c) b|9=>ai ((f 9).b) #[J R (n:Int),ad (f 7).A b.length (f 7).c] 258|10=>bn ((f 10).A) (m.L.length+1) ((f 10).c) oj 2 (l4 m.L++([J R (n:Int),ad (f 7).A b.length (f 7).c]))|13=>ai B #[J R (d.size:Int),ad (ab ⟨m.cB,0,af⟩) d.bytes.length d.bytes.length,J R d.writes,J aG d.keep,J R d.er,J R d.eZ,J R d.iq,J R d.hi,J R d.cW,ad (f 10).A (m.L.length+1) (f 10).c,dE (ab m.e1),ak d.down] 120|_=>emp) (λ|10=>[2]|13=>[0]|_=>[]) (λ|0=>[4]|1=>[4]|4=>[0]|10=>[15]|_=>[]) (λ|7=>[7]|9=>[7,9]|10=>[7,10]|13=>[10]|_=>[]) [1,3,4,5,13,15,16,19] (λf=>?_);refine dl 0 0 ?_;refine dl 0 0 ?_;refine bp ?_;refine dl 0 9 ?_;refine bp ?_;refine df (λwl Fr a=>(wW F dB b _ (bV _ a.only) ae).mono ?_) ?_;·rintro e dm ⟨cg,c1,rfl,hrow,g⟩;exact⟨{A:=cg,c:=c1},aa,a.js g (Row.nV hrow)⟩
   refine aK ?_;refine lM #[J _ _,ad (f 7).A _ (f 7).c] _ ?_;refine tQ (m:=1) 32 (λ_ _ a=>aW.cellsOf (m:=1) (a.aZ 1) aa) (by intro u hu;simp only[gy,ga,or_false]at hu;rcases hu with rfl|rfl<;>rfl) ?_;refine bp ?_;refine fY _ ?_;refine bQ λca a=>?_;generalize (f 7).A=Y at a⊢;generalize (f 7).c=Z at a⊢;generalize (f 9).b=Ov at a⊢;generalize (f 10).A=s at a⊢;generalize (f 10).c=t at a⊢;replace a:=a.pk [1,4,7,0,3,6,2];replace a:=a.as3 n;obtain⟨k,Q⟩:=ex (m.L++[⟨n,Y,Z,b⟩]);have bB:(l4 m.L++([J R (n:Int),ad Y b.length Z]))=l4 k:=by grind[ali]
   have b7:m.L.length+1=k.length:=aF;have fG:k.map (λx=>(x.sec,x.bs))=d.cache++[(n,b)]:=by rw[<-Q,gx,iB];rfl
   rw[Q,bB,b7]at a;have ayR:k.length<=1073741824:=ae;have N:=hid fG;have aaw:d.cache.length+1=k.length:=by rw[uV,b7]
   have P:=hid aaw;rw[b7];clear bB b7 fG Q aaw;go_step;refine ag ?_;refine pl a 5 0 ?_;refine v3 ?_;refine pl a 1 4 ?_;refine pk (J R (R.wrap (d.er+1))) ?_;refine v3 ?_;refine a' a 1 (J _ _) (λcF a=>?_);refine an ?_;go_step;refine ct ?_;refine bN a [12] (λ_ _=>aY) (λ_=>λ|12=>ai B #[J R (d.size:Int),ad (ab ⟨m.cB,0,af⟩) d.bytes.length d.bytes.length,J R d.writes,J aG d.keep,J R (R.wrap (d.er+1)),J R d.eZ,J R d.iq,J R (max d.hi ((n:Int)+1)),J R d.cW,ad s k.length t,dE (ab m.e1),ak d.down] 120|_=>emp) (λ|12=>[1]|_=>[]) (λ|0=>[5]|1=>[5]|5=>[1]|_=>[]) (λ_=>[]) [0,2,3,4,5,18] (λf=>?_);refine dl 0 0 ?_;refine dl 0 0 ?_;refine c7 ?_;refine dl 0 7 ?_;refine aK ?_;refine aL _ (λ_ _ _=>lK 3 _ _ 3 aa _ 1 ((n:Int)+1) aa aa ae ae ae) ?_;refine aL _ (λ_ _ _=>by(go_simp;try with_reducible rfl)) ?_;refine c7 ?_;refine fY _ ?_;refine bQ λc6 a=>?_;go_step;refine ct ?_;refine bN a [15] (λ_ _=>aY) (λ_=>λ|15=>ai B #[J R (d.size:Int),ad (ab ⟨m.cB,0,af⟩) d.bytes.length d.bytes.length,J R d.writes,J aG d.keep,J R (R.wrap (d.er+1)),J R d.eZ,J R d.iq,J R (max d.hi ((n:Int)+1)),J R (max d.cW (k.length:Int)),ad s k.length t,dE (ab m.e1),ak d.down] 120|_=>emp) (λ|15=>[5]|_=>[]) (λ|0=>[4]|1=>[4]|5=>[5]|6=>[4]|9=>[5]|_=>[]) (λ_=>[]) [0,1,2,3,4,21] (λf=>?_);refine dl 0 0 ?_;refine dl 0 0 ?_;refine c7 ?_;refine dl 0 8 ?_;refine dl 0 0 ?_;refine bp ?_;refine dl 0 9 ?_;refine aK ?_;refine aL _ (λ_ _ _=>by(go_simp;try with_reducible rfl)) ?_;refine c7 ?_;refine fY _ ?_;refine bQ λdW a=>?_;by_cases T:d.writes<0
   .have l:aE (jC d n b=(0,xF d n b)):=hid (by rw[jC,M,if_neg bh,if_neg (by rw[C];simp),if_pos T];rfl);go_step;refine ag ?_;refine pl a 4 0 ?_;refine v3 ?_;refine pl a 5 2 ?_;refine cb (ak aB) ?_;refine an ?_;go_step;refine ag ?_;refine ah ?_;refine an ?_;have y:(d.cache.map (·.1))++[n]=(xF d n b).cache.map (·.1):=by simp[xF]
    have v:max d.cW (k.length:Int)=max d.cW ((d.cache.length+1:Nat):Int):=by rw[P]
    rw[y,v]at a;clear y v;replace a:aj _ _ _ (aN B (⟨m.cB,m.e1,s,t,k⟩) (xF d n b)::[ai o #[ay (ab ⟨B,0,af⟩)] 32]):=aj.vu (show(xF d n b).cache=ny.plain ⟨m.cB,m.e1,s,t,k⟩from N.out.symm) (a.pick (l':=_) [5,1,2,3,0,4]);go_wp2_with fail;go_ret;exact⟨by rw[l];rfl,_,by rw[l.out];exact a.gi 0⟩
   .by_cases mH:0<=d.writes -1
    .have l:aE (jC d n b=(0,te d n b)):=hid (by rw[jC,M,if_neg bh,if_neg (by rw[C];simp),if_neg T,if_pos mH];rfl);go_step;refine ag ?_;refine pl a 4 0 ?_;refine v3 ?_;refine pl a 5 2 ?_;refine cb (ak au) ?_;refine an ?_;go_step;refine ag ?_;refine pl a 4 0 ?_;refine v3 ?_;refine pl a 5 2 ?_;refine mN _ 1 (d.writes -1) ?_;refine v3 ?_;refine a' a 5 (J _ _) (λdG a=>?_);refine an ?_;go_step;refine ag ?_;refine pl a 4 0 ?_;refine v3 ?_;refine pl a 5 2 ?_;refine cb (ak aB) ?_;refine an ?_;go_step;refine ag ?_;refine ah ?_;refine an ?_;have y:(d.cache.map (·.1))++[n]=(te d n b).cache.map (·.1):=by simp[te,xF]
     have v:max d.cW (k.length:Int)=max d.cW ((d.cache.length+1:Nat):Int):=by rw[P]
     rw[y,v]at a;clear y v;replace a:aj _ _ _ (aN B (⟨m.cB,m.e1,s,t,k⟩) (te d n b)::[ai o #[ay (ab ⟨B,0,af⟩)] 32]):=aj.vu (show(te d n b).cache=ny.plain ⟨m.cB,m.e1,s,t,k⟩from N.out.symm) (a.pick (l':=_) [5,1,2,3,0,4]);go_wp2_with fail;go_ret;exact⟨by rw[l];rfl,_,by rw[l.out];exact a.gi 0⟩
    .have l:aE (jC d n b=(18,Je d n b)):=hid (by rw[jC,M,if_neg bh,if_neg (by rw[C];simp),if_neg T,if_neg mH];rfl);have U:=Uv H hn C hf ae;go_step;refine ag ?_;refine pl a 4 0 ?_;refine v3 ?_;refine pl a 5 2 ?_;refine cb (ak au) ?_;refine an ?_;go_step;refine ag ?_;refine pl a 4 0 ?_;refine v3 ?_;refine pl a 5 2 ?_;refine mN _ 1 (d.writes -1) ?_;refine v3 ?_;refine a' a 5 (J _ _) (λe8 a=>?_);refine an ?_;go_step;refine ag ?_;refine pl a 4 0 ?_;refine v3 ?_;refine pl a 5 2 ?_;refine cb (ak au) ?_;refine an ?_;have y:(d.cache.map (·.1))++[n]=(te d n b).cache.map (·.1):=by simp[te,xF]
     have v:max d.cW (k.length:Int)=max d.cW ((d.cache.length+1:Nat):Int):=by rw[P]
     rw[y,v]at a;clear y v;replace a:aj _ _ _ (aN B (⟨m.cB,m.e1,s,t,k⟩) (te d n b)::[ai o #[ay (ab ⟨B,0,af⟩)] 32]):=aj.vu (show(te d n b).cache=ny.plain ⟨m.cB,m.e1,s,t,k⟩from N.out.symm) (a.pick (l':=_) [5,1,2,3,0,4]);obtain⟨D,I⟩:=ex (te d n b);obtain⟨p,S⟩:=ex (s4 D (EV d.keep));have hk2:D.keep=d.keep:=by rw[<-I];rfl
     have iH:p.iq=d.iq:=by rw[<-S,<-I];rfl
     rw[I]at U;have aiM:aE (Je d n b={p with down:=aB,iq:=R.wrap (p.iq+1)}):=hid (by grind[Je])
     have bI:aE (∀W E K,Has W (aN B E D)->aW W K _ 32->¬(aN B E D).c5 K->aD ax 63 #[dh B,dJ (ej 359) #[] _] W λe w'=>e=aA (bg #[])/\∃X,Turned W w' (aN B E D) (aN B X p)):=hid (λW E K h hx gd=>by
      have q:=Ro B E D _ #[ay _] _ W h U (ll Tryz.func359 aw aa) (λq fv hq g hb2=>by have z:=aqP K B E D q fv (by have h3:=U.ek;rw[h.plain,ny.plain,gU]at h3;omega) (ar.heap g hx gd) hb2;rw[hk2]at z;exact z);rw[S]at q;exact q);rw[I]at a;clear I S iH;go_step;refine ag ?_;refine pl a 1 0 ?_;refine ah ?_;refine a6 (bI.out _ _ o (a.has 0) (a.aZ 1) (λh=>a.ne (i:=0) (j:=1) aa aa bh _ h aa)) ?_;rintro e hR ⟨rfl,r,bF⟩;replace a:=a.eF 0 bF;refine ba ?_;refine an ?_;replace a:=a.zW;obtain⟨apK,a⟩:=a;replace a:aj _ _ _ [ai B #[J R _,ad _ _ _,J R _,J aG _,J R p.er,J R _,J R p.iq,J R p.hi,J R _,ad r.A _ r.c,dE _,ak _] 120,ai r.cB _ 5,jM r.e1 _,bn r.A _ r.c oj 2 _,lZ r.L,ai o _ 32]:=a;go_step;refine ag ?_;refine pl a 5 0 ?_;refine v2 ?_;refine a' a 0 (ak _) (λiZ a=>?_);refine an ?_;go_step;refine ag ?_;refine pl a 5 0 ?_;refine v3 ?_;refine pl a 0 6 ?_;refine pk (J R (R.wrap (p.iq+1))) ?_;refine v3 ?_;refine a' a 0 (J _ _) (λks a=>?_);refine an ?_;go_step;refine ag ?_;refine ah ?_;refine an ?_;replace a:aj _ _ _ (aN B r ({p with down:=aB,iq:=R.wrap (p.iq+1)})::[ai o _ 32]):=aj.vu apK (a.pick (l':=_) [0,1,2,3,4,5]);go_wp2_with fail;go_ret;exact⟨by rw[l];rfl,r,by rw[l];show Turned _ _ _ (aN B r (Je d n b));rw[aiM];exact a.gi 0⟩
  .have C:=hid hbl;have l:aE (jC d n b=(2,d)):=hid (by rw[jC,M,if_neg bh,if_pos hbl]);clear hbl;go_enter VC,VZ;have a:=aj.start V;go_step;refine ag ?_;refine bM a (ay _) (λo lf a=>?_);refine ah ?_;refine an ?_;replace a:=a.front 1;replace a:=a.zW;obtain⟨hpl,a⟩:=a;replace a:aj _ _ _ [ai B #[J R _,ad _ _ _,J R _,J aG _,J R d.er,J R d.eZ,J R d.iq,J R d.hi,J R d.cW,ad m.A _ m.c,dE _,ak _] 120,ai m.cB _ 5,jM m.e1 _,bn m.A _ m.c oj 2 _,lZ m.L,ai o #[ay _] 32]:=a;go_step;refine ag ?_;refine pl a 5 0 ?_;refine ah ?_;refine a6 (O _ (a.aZ 0)) ?_;rintro e mm ⟨rfl,g⟩;replace a:=a.aH g;refine ba ?_;refine ah ?_;refine an ?_;go_step;refine ag ?_;refine ah ?_;refine pk (ak au) ?_;refine an ?_;go_step;refine ag ?_;refine v2 ?_;refine pl a 5 0 ?_;refine v3 ?_;refine pl a 0 0 ?_;refine aI (ak aB) (by(have h:=C.out;go_simp;first|omega|omega)) ?_;refine an ?_;go_step;refine ag ?_;refine ah ?_;refine an ?_;replace a:aj _ _ _ (aN B m d::[ai o _ 32]):=aj.vu hpl (a.pick (l':=_) [0,1,2,3,4,5]);go_wp2_with fail;go_ret;exact⟨by rw[l];rfl,m,by rw[l];exact a.gi 0⟩
 .have qF:=h0;have l:aE (jC d i b=(bo,d)):=hid (by grind[jC]);clear G;go_enter VC,VZ;have a:=aj.start V;go_step;refine ag ?_;refine bM a (ay _) (λo nX a=>?_);refine ah ?_;refine an ?_;replace a:=a.front 1;replace a:=a.zW;obtain⟨hpl,a⟩:=a;replace a:aj _ _ _ [ai B #[J R _,ad _ _ _,J R _,J aG _,J R d.er,J R d.eZ,J R d.iq,J R d.hi,J R d.cW,ad m.A _ m.c,dE _,ak _] 120,ai m.cB _ 5,jM m.e1 _,bn m.A _ m.c oj 2 _,lZ m.L,ai o #[ay _] 32]:=a;go_step;refine ag ?_;refine pl a 5 0 ?_;refine ah ?_;refine a6 (O _ (a.aZ 0)) ?_;rintro e pd ⟨rfl,g⟩;replace a:=a.aH g;refine ba ?_;refine ah ?_;refine an ?_;go_step;refine ag ?_;refine ah ?_;refine aI (ak aB) (by(go_simp;try simp[qF])) ?_;refine an ?_;go_step;refine ag ?_;refine v2 ?_;refine an ?_;replace a:aj _ _ _ (aN B m d::[ai o _ 32]):=aj.vu hpl (a.pick (l':=_) [0,1,2,3,4,5]);go_wp2_with fail;go_ret;exact⟨by rw[l];rfl,m,by rw[l];exact a.gi 0⟩
section
section
variable {P:eu} {o:cR} {a:bT} {w:aM}
def art n:F9 #[a8 0] n=aX a8 (fq n 0) []:=by
 apply Array.ext;·simp[F9,aX]
 grind[F9,aX]
def Tz{t e:Nat}{x y}(n:Nat)(c:o.op=.makeSlice t x y)(hx:a.eval x=J R (n:Int))(f:a.eval y=J R (n:Int))(d:P.underlying t=ab (hT e))(hi:(P.info? e).map (λi=>(i.zero,i.size,i.bytes))=ab (ab (a8 0),1,1))(j:n<=1073741824):
 ∃B w',(bt a.eval o).run P w=a7 (c8 (ad (ab ⟨B,0,af⟩) n n)) w'/\b3 w w' (ai B (aX a8 (fq n 0) []) e):=by
 cases hq:P.info? e with
 |none=>grind
 |some i=>
  rw[hq]at hi;simp only[oW,wQ,oh]at hi;obtain⟨h1,b,g⟩:=hi;have h:=run_make (P:=P) w t e i (a8 0) d hq h1 R R (n:Int) (n:Int) ae (Int.le_refl _) aF ae;refine⟨_,_,?_,yh (ar.alloc _ _) (fe w _) (cm _)⟩;rw[b,Nat.mul_one]at h;have hc:(a8 0).cells=#[a8 0]:=rfl;rw[hc,Int.toNat_natCast,art]at h;unfold bt;simp only[c,hx,f,gj,h,ji,jR]
def ash{t:Nat}(c:o.op=.makeMap t af):∃B w',(bt a.eval o).run P w=a7 (c8 (dE (ab B))) w'/\b3 w w' (jM B []):=by
 refine⟨w.heap.size,w.alloc (.map #[] 0),?_,ar.alloc _ _,⟨[],dY.made w Ee db,cm _,λ_=>rfl⟩,λb hb=>?_⟩;·grind[bt,gj,run_makeMap,ji,jR]
 .have e:b=w.heap.size:=hb;rw[e];simp
def aes {d p} {c j g B off f cap m c2 t:Nat} {aJ old new cs} (l:o.op=mU {callee:=n2 .copy,args:=#[d,p],argTypes:=#[c,j]}) (k:a.eval d=ad (ab ⟨B,off,af⟩) f cap) (n:a.eval p=ad aJ m c2) (h:aW w B old t) (hr:Cells w 1 aJ m cs) (s:m<=f)
 (o3:off+m<=old.size) (h1:∀v∈cs,v.oneCell'=aB) (lS:(old.toList.take off++cs++old.toList.drop (off+cs.length)).toArray=new) (hu:P.underlying c=ab (hT g)) (hs:(P.info? g).map (·.size)=ab 1):
 ∃w',(bt a.eval o).run P w=a7 (c8 (J R (m:Int))) w'/\Turned w w' (ai B old t) (ai B new t):=by
 have hcs:cs.length=m:=by simpa using hr.1
 rcases lJ m with i|i
 .subst i;obtain rfl:cs=[]:=jH hcs;have e:new=old:=by rw[<-lS];simp
  subst e;have hc:=run_copy_none (P:=P) w c j o.type g (ab ⟨B,off,af⟩) aJ f cap 0 c2 hu hs (Nat.zero_min _);refine⟨w,?_,Turned.refl ⟨h,λb hb=>by have e:b=B:=hb;rw[e];exact aW.lt h⟩⟩;unfold bt;simp only[l,mX,mW,pv,gj,jR,ji,og,jx,kC,k,n,hc];rfl
 .obtain⟨q,rfl,r⟩:=hr.2 i;have hr:=JX (P:=P) w c j o.type g B off f cap q m c2 old t cs hu hs h aF r ae h1;refine⟨w.setRow B (old.toList.take off++cs++old.toList.drop (off+m)).toArray,?_,vq (ar.setRow w B _) ?_⟩;·unfold bt;simp only[l,mX,mW,pv,gj,jR,ji,og,jx,kC,k,n,hr,hcs];rfl
  .rw[<-lS,hcs];exact h.setRow _
end
def ie(bs:List Int)(off:Nat)(b:List Int):List Int:=bs.take off++b++bs.drop (off+b.length)
theorem Az{bs b off}(h:off+b.length<=bs.length):(ie bs off b).length=bs.length:=by grind[ie]
def XW{bs b off}:((aX a8 bs []).toList.take off++b.map a8++(aX a8 bs []).toList.drop (off+(b.map a8).length)).toArray=aX a8 (ie bs off b) []:=by simp[aX,ie]
def qP(size cnt:Nat)(b:List Int):dL:={size:=size,cnt:=cnt,bytes:=ie (fq (size*cnt) 0) 0 b,writes:=-1,keep:=0,er:=0,eZ:=0,iq:=0,hi:=0,cW:=0,cache:=[],down:=au}
def acV{size cnt b}(h1:1<=size)(a:1<=cnt)(c:size*cnt<=1048576)(hb:b.length<=size*cnt):dR (qP size cnt b):=
 ⟨h1,a,by show(ie _ 0 b).length=cnt*size;grind[Az],by show cnt*size<=_;rw[Kx];exact c,λx hx=>absurd hx ga,cQ _,by unfold db;show _<=(-1:Int)/\(-1:Int)<=_;omega⟩
def amM(size cnt p:Nat)A c b w(h1:1<=size)(f:1<=cnt)(o:size*cnt<=1048576)(hbl:b.length<=size*cnt)(s:w.cell? ⟨p,0,af⟩=ab (ad A b.length c))(hb:bR w A b):
 aD ax 94 #[J R (size:Int),J R (cnt:Int),ad (ab ⟨p,0,af⟩) 1 1] w λe w'=>∃B m,e=aA (dh B)/\b3 w w' (aN B m (qP size cnt b)):=by
 have hz1:size<=size*cnt:=zI _ f;have hz2:cnt<=size*cnt:=GO _ h1;obtain⟨q,d⟩:=ex (1048576/cnt);have H:size<=q:=by rw[<-d];exact(aj8 f).2 o
 have G:q<=1048576:=by rw[<-d];exact zH _ _
 obtain⟨N,i⟩:=ex (size*cnt);have r:(size:Int)*(cnt:Int)=(N:Int):=ae;have E:=hid i;have z:=hid d;rw[i]at o hbl hz1 hz2;clear d i;have y:aE (∀W,aq w W->aD ax 93 #[ad (ab ⟨p,0,af⟩) 1 1] W λe w'=>∃j n,e=aA (ad j b.length n)/\w'.ownsRow W.heap.size 5 1 (ad j b.length n) b.length (b.map a8)/\aq W w'):=hid (λW g=>G6 p A c b W (g.cell s (λh=>h)) (hb.aH g) ae);clear s hb;go_enter func94,ntmps94;have a:=bf w;go_step;refine ag ?_;refine cJ ?_;refine a6 (y.out _ a.only) ?_;rintro e w1 ⟨D,F,rfl,hrow,g⟩;replace a:=a.js g (Row.nV hrow);refine ba ?_;refine ku ?_;refine aI (J R (gW (size:Int) (cnt:Int))) (by(go_simp;try with_reducible rfl)) ?_;refine cb (ak au) ?_;refine v3 ?_;refine aI _ (BC 3 _ _ 3 aa _ cnt q aa aa f z ae) ?_;refine cb (ak au) ?_;refine pk (ak au) ?_;refine v5 ?_;refine aI _ (nH 3 _ _ 3 aa _ _ _ aa aa r ae ae) ?_;refine cb (ak au) ?_;refine pk (ak au) ?_;refine jt ?_;refine aI (J R (N:Int)) (nH 3 (bb 30) (bb 31) 3 aa ((size:Int)) ((cnt:Int)) (N:Int) aa aa r ae ae) ?_;refine IH a (Tz N aa aa aa dI aw ae) (λk I a=>?_);refine v2 ?_;refine IH a (ash aa) (λl K a=>?_);refine ah ?_;refine bM a (av #[J R (size:Int),ad (ab ⟨k,0,af⟩) N N,J R (-1),J aG 0,J R 0,J R 0,J R 0,J R 0,J R 0,ad af 0 0,dE (ab l),ak au]) (λt L a=>?_);refine AV ?_;refine pl a 0 1 ?_;refine ah ?_;refine CG a 2 (aes aa aa aa (a.aZ 2) (a.lr 3).1.cells ae (by grind[j7]) (vT _) (show _=aX a8 (ie (fq N 0) 0 b) []from XW) dI aw) (λC a=>?_);refine ag ?_;refine dP ?_;replace a:=(a.new (lZ []) ⟨ar.refl _ _,λx hx=>absurd hx ga,λb ⟨x,hx,_⟩=>absurd hx ga⟩).new (bn af 0 0 oj 2 []) ⟨ar.refl _ _,Row.nil _ _ _ _,λb ⟨_,_,e⟩=>aF⟩;have hlen:(ie (fq N 0) 0 b).length=N:=by grind[Az]
 have u:=a.pk [2,4,3,0,1];have e:qP size cnt b={size:=size,cnt:=cnt,bytes:=ie (fq N 0) 0 b,writes:=-1,keep:=0,er:=0,eZ:=0,iq:=0,hi:=0,cW:=0,cache:=[],down:=au}:=by grind[qP]
 have v:aj w (λ_=>False) C [aN t ⟨k,l,af,0,[]⟩ (qP size cnt b)]:=by rw[e];refine aj.vu aa ?_;show aj _ _ _ (ai _ #[_,ad _ (ie (fq N 0) 0 b).length (ie (fq N 0) 0 b).length,_,_,_,_,_,_,_,_,_,_] _::_);rw[hlen];exact u
 go_wp2_with fail;go_ret;exact⟨_,_,aa,v.fresh 0⟩
end
def qR(s:Nat):Nat->Nat->Nat->List (Int×Int)
 |0,_,_=>[]
 |f+1,o,n=>if n=0 then[]else((o:Int),((gW s n:Nat):Int))::qR s f (o+gW s n) (n -gW s n)
def hP(s o n:Nat):List (Int×Int):=qR s n o n
theorem TM s(a:0<s):∀f o n,n<=f->(qR s f o n).length<=(n+s -1)/s
 |0,o,n,h=>cQ _
 |f+1,o,n,h=>by
  unfold qR;split;·simp
  .rename_i c;have d:=TM s a f (o+gW s n) (n -gW s n) ae;rw[jT]
   have h1:(n+s -1)/s=(n -gW s n+s -1)/s+1:=by
    by_cases b:n<=s;·rw[Nat.min_eq_right b,Nat.sub_self,show 0+s -1=s -1 by omega,XJ (by omega:s -1<s),show n+s -1=(n -1)+s by omega,XI _ a,XJ ae]
    .rw[Nat.min_eq_left ae,show n+s -1=(n -s+s -1)+s by omega,XI _ a]
   omega
def as9(o n s:Nat)w:
 aD ax 324 #[gI ((o:Int),(n:Int)),J R (s:Int)] w λe w'=>∃b bX,e=aA (dJ (ej 358) #[] #[ay (ab ⟨b,0,af⟩),ay (ab ⟨bX,0,af⟩)])/\b3 w w' (both (ai b #[J R (o:Int),J R (n:Int)] 35) (ai bX #[J R (s:Int)] 3)):=by
 go_enter func324,ntmps324;have a:=bf w;go_step;refine ag ?_;refine bM a (av #[J _ (o:Int),J _ (n:Int)]) (λc w1 a=>?_);refine bM a (J _ _) (λd f a=>?_);refine ah ?_;refine ag ?_;refine dP ?_;go_wp2_with fail;go_ret;exact⟨_,_,aa,((a.pick (l':=[ai _ _ 35,ai _ _ 3]) [1,0]).star).fresh 0⟩
def Iu(b:Nat)(w:aM):Nat:=match w.cell? ⟨b,1,af⟩with|some v=>(cw v).toNat|none=>0
def acB{b w v}{n:Nat}{t}(h:aW w b #[v,J R (n:Int)] t):Iu b w=n:=by unfold Iu;rw[aW.cell h 1 aa];simp[cw]
theorem as8(o n s:Nat)(I:0<s/\(s:Int)<=4611686018427387903)(H:((o+n:Nat):Int)<=4611686018427387903)(g bX)ao FX:
 yd ax 358 #[ay (ab ⟨g,0,af⟩),ay (ab ⟨bX,0,af⟩)] (λe:Int×Int=>#[gI e]) ao FX (both (ai g #[J R (o:Int),J R (n:Int)] 35) (ai bX #[J R (s:Int)] 3)) (λ_=>True) (hP s o n):=by
 intro l S N W F t r u a;go_enter Tryz.func358,ntmps358;replace a:=a.fh;obtain⟨xs,j⟩:=ex (hP s o n);rw[j]at r⊢;have hs1:=I;have Q:=H;go_wp2_with fail;go_loopw [] (λwr=>∃(i c d:Nat) (pre:List (Int×Int)) (t:br),pre++qR s d i c=xs/\c<=d/\i+c=o+n/\S pre t/\aj ao FX wr [ai g #[J R (i:Int),J R (c:Int)] 35,ai bX #[J R (s:Int)] 3,t,F]) (λwr=>Iu g wr);case atStart=>exact⟨o,n,n,[],t,j,cm _,aa,u,a⟩
 case round=>
  clear a j u;obtain⟨i,c,d,pre,t,j,O,T,v,a⟩:=hrel;have E:=a.aZ 0;by_cases hlt:0<c
  .have D:(0:Int)<(c:Int):=ae;obtain⟨m,w⟩:=ex (gW s c);have P:0<m/\m<=c:=ae;have x:gW (s:Int) (c:Int)=(m:Int):=ae;obtain⟨d,rfl⟩:∃f,d=f+1:=⟨d -1,ae⟩;have p:(pre++[((i:Int),(m:Int))])++qR s d (i+m) (c -m)=xs:=by grind[qR]
   have y:pre++[((i:Int),(m:Int))]<+:xs:=⟨_,p⟩;have A:=hid x;have B:=hid p;have L:=hid w;have M:=hid j;clear w x j p;go_step;refine ag ?_;refine ah ?_;refine pl a 0 1 ?_;refine dQ ?_;refine pl a 1 0 ?_;refine ah ?_;refine pl a 0 1 ?_;refine dr A (J R (m:Int)) ?_;refine ig ?_;refine NB 5 ?_;refine v2 ?_;refine pl a 0 0 ?_;refine dP ?_;have q:=(a.pick (l':=[t,ai g _ 35,ai bX _ 3,F]) [2,0,1,3]).G0;refine Jd (r _ _ _ _ _ y v q) (λb w1 hb=>?_) (λ_ _ C=>C.elim (λh=>⟨_,h.1⟩) (λh=>⟨_,h.1⟩)) (Hf aa aa (by simp only[og,jx,kC];rfl));clear q a;rcases I4 hb with⟨rfl,z,k,a⟩|⟨rfl,z,k,a⟩
   .clear hb;replace a:=a.xz;refine vS ?_;refine cJ ?_;refine pl a 1 0 ?_;refine ah ?_;refine pad _ _ ((i+m:Nat):Int) ?_;refine ah ?_;refine a' a 1 (J _ _) (λU a=>?_);refine b4 ?_;refine pl a 1 1 ?_;refine ah ?_;refine mN _ _ ((c -m:Nat):Int) ?_;refine ah ?_;refine a' a 1 (J _ _) (λV a=>?_);refine an ?_;have G:=a.aZ 1;go_wp2_with fail;go_roundw;case rel=>exact⟨_,_,d,_,_,B,ae,ae,k,a.pick [1,2,0,3]⟩
    case measure=>(show Iu _ _<Iu _ _;rw[acB G,acB E];omega)
   .clear hb;replace a:=a.xz;refine vS ?_;refine bP ?_;go_wp2_with fail;first|go_end0|refine bodyPost_ret (results_none rfl _ _ _) rfl ?_
    exact vo.cut y k ((aj.bO (l:=[ai g _ 35,ai bX _ 3]) (a.pick (l':=[ai g _ 35,ai bX _ 3,z,F]) [1,2,0,3])).pick [1,0,2])
  .have D:¬(0:Int)<(c:Int):=ae;obtain rfl:c=0:=ae;have K:pre=xs:=by rw[<-j];cases d<;>simp[qR]
   subst K;go_step;refine ag ?_;refine ah ?_;refine pl a 0 1 ?_;refine bP ?_;go_wp2_with fail;first|go_end0|refine bodyPost_ret (results_none rfl _ _ _) rfl ?_
   exact vo.all v trivial ((aj.bO (l:=[ai g _ 35,ai bX _ 3]) a).pick [1,0,2])
def qC(l:List (Int×Int)):List Value:=l.flatMap (λe=>[J R e.1,J R e.2])
theorem anA l e:qC (l++[e])=qC l++[J R e.1,J R e.2]:=by simp[qC]
def avg(o n s:Nat)(y:0<s/\(s:Int)<=4611686018427387903)(U:((o+n:Nat):Int)<=4611686018427387903)(V:(n+s -1)/s<=1048576)w:
 aD ax 289 #[gI ((o:Int),(n:Int)),J R (s:Int)] w λe w'=>∃A c,e=aA (ad A (hP s o n).length c)/\Row w.heap.size w' A (hP s o n).length c 35 2 (qC (hP s o n))/\aq w w':=by
 obtain⟨xs,q⟩:=ex (hP s o n);have z:xs.length<=1048576:=by grind[TM,hP]
 have K:=hid q;have I:=hid z;have H:∀d bX,yd ax 358 #[ay (ab ⟨d,0,af⟩),ay (ab ⟨bX,0,af⟩)] (λe:Int×Int=>#[gI e]) w (λ_=>False) (both (ai d #[J R (o:Int),J R (n:Int)] 35) (ai bX #[J R (s:Int)] 3)) (λ_=>True) xs:=λd bX=>by grind[as8]
 obtain⟨B,k⟩:=ex ((n -1)/s);have r:=hid k;have X:B<=n:=by rw[<-k];exact eC (zH _ _) (GP _ _)
 clear k;rw[q];clear q z;refine BH func289 aa ?_;simp only[ntmps289,List.size_toArray,jT,List.length_nil,Array.replicate_succ,Array.replicate_zero,List.push_toArray,List.append_toArray,List.nil_append,List.cons_append];have a:=bf w;go_step;refine ag ?_;refine bM a (av #[J _ (o:Int),J _ (n:Int)]) (λC w1 a=>?_);refine ah ?_;refine an ?_;by_cases L:n=0
 .subst L;have hx0:xs=[]:=by rw[<-K];rfl
  subst hx0;go_step;refine ag ?_;refine ah ?_;refine cb (ak au) ?_;refine v2 ?_;refine pl a 0 1 ?_;refine v3 ?_;iterate 6 refine ps ?_
  refine ah ?_;refine an ?_;go_step;refine ag ?_;refine ah ?_;refine an ?_;go_wp2_with fail;exact arx (Pk aa _ _ _) ⟨_,0,aa,Row.nil _ _ _ _,a.only⟩
 .have T:¬(n:Int)=0:=ae;have G:aE (¬(1048576:Int)<=(B:Int)):=hid (by have h1:(n+s -1)/s=(n -1)/s+1:=(by rw[show n+s -1=(n -1)+s by omega,XI _ y.1]);have M:=r.out;omega);go_step;refine ag ?_;refine ah ?_;refine cb (ak au) ?_;refine v2 ?_;refine pl a 0 1 ?_;refine cb (ak au) ?_;refine v3 ?_;refine pl a 0 1 ?_;refine mN _ 1 ((n -1:Nat):Int) ?_;refine ah ?_;refine aI _ (BC _ _ _ _ aa _ s _ aa aa y.1 r ae) ?_;refine aI (ak au) (by(have h:=G.out;go_simp;try simp[h];try omega)) ?_;refine ah ?_;refine an ?_;go_step;refine ag ?_;refine bx a #[ad _ 0 0] (λg Y a=>?_);refine an ?_;go_step;refine ag ?_;refine bq a 1 #[J R (o:Int),J R (n:Int)] ?_;refine ah ?_;refine a6 (as9 o n s _) ?_;rintro e Z ⟨d,bX,rfl,N⟩;replace a:=a.new _ N;refine ba ?_;refine an ?_;replace a:=a.new (bn _ 0 0 35 2 []) ⟨ar.refl _ _,Row.nil _ _ _ _,λb ⟨_,_,e⟩=>aF⟩;go_wp2_with fail;have v:aj _ _ _ [both _ _,bO [ai g _ 176,bn af 0 0 35 2 []],bO [ai C #[J R _,J R _] 35]]:=aj.D0 (a.pick [1,2,0,3]);refine Jc (encs:=(λe:Int×Int=>#[gI e])) aa (ll Tryz.func358 aS aa) (λ_=>aa) (H d bX) (λpre t=>∃A c,t=bO [ai g #[ad A pre.length c] 176,bn A pre.length c 35 2 (qC pre)]) (λ_ _ _=>False) (⟨af,0,aa⟩) v ?_ ?_ ?_;all_goals clear v a
  .rintro l rd pre x W t F O P ⟨A,c,rfl⟩ a;replace a:=a.lE;repeat((fail_if_success (with_reducible refine at_region ?_));gi_step)
   refine ke ?_;refine bx a #[J _ 0,J _ 0] (λS ca a=>?_);refine a' a 0 (av _) (λcF a=>?_);refine an ?_;first|refine wpIn_skip ?_|skip
   simp only[Exit.then];refine BB a 3 P (λc6 a=>?_);replace a:aj _ _ _ [ai _ _ 35,ai _ _ _,bn A _ c 35 2 _,obj l _,F]:=a;have hpl:=O.length_le;rw[dv,List.length_singleton]at hpl;have E:=hid hpl;clear hpl;repeat((fail_if_success (with_reducible refine at_region ?_));gi_step)
   refine ke ?_;refine pl a 1 0 ?_;refine bq a 0 #[J R x.1,J R x.2] ?_;refine f' a #[J R x.1,J R x.2] 35 (λQ dW a=>?_);refine nt (m:=1) a 3 16 (aW.cellsOf (m:=1) (a.aZ 0) aa) (by intro u p;simp only[gy,ga,or_false]at p;rcases p with rfl|rfl<;>rfl) (λf j dG a=>?_) (hby:=by have h1:=E.out;have M:=I.out;omega);refine a' a 2 (ad _ _ _) (λe8 a=>?_);refine an ?_;repeat gi_step
   have i:=a.pk [2,3,4,5];replace i:aj _ _ _ [bO [ai g #[ad f (pre.length+1) j] 176,bn f (pre.length+1) j 35 2 (qC pre++([J R x.1,J R x.2]))],obj l (.loop {rd with state:=.busy}),F]:=i.fB 2;refine⟨_,?_,i⟩;exact⟨f,j,by grind[anA]⟩
  .rintro D t u W ⟨A,c,rfl⟩ p a;replace a:=a.lE;replace a:=(a.pk [4,0,1,2,3]).lE;go_step;refine ag ?_;refine pl a 1 0 ?_;refine ah ?_;refine an ?_;go_wp2_with fail;refine yU a 4 (λw' a=>⟨Pk aa _ _ _,?_⟩);replace a:aj _ _ _ [ai _ _ 35,ai _ _ _,bn A _ c 35 2 _,u,obj D _]:=a;exact⟨A,c,aa,(a.fresh 2).row,a.only⟩
  .simp
def fg(s o n:Nat):Nat×Nat:=if n=0 then(0,0)else(o/s,(o+n -1)/s -o/s+1)
def l0(s o n i:Nat):Nat×Nat×Nat:=(i,max o (i*s),gW (o+n) (i*s+s) -max o (i*s))
def oI(s o n:Nat):List (Nat×Nat×Nat):=(dF (fg s o n).2).map (λj=>l0 s o n ((fg s o n).1+j))
def adS{s o n i}(c:1<=s)(h1:(fg s o n).1<=i)(a:i<(fg s o n).1+(fg s o n).2):i*s<=(l0 s o n i).2.1/\o<=(l0 s o n i).2.1/\0<(l0 s o n i).2.2/\(l0 s o n i).2.1+(l0 s o n i).2.2<=o+n/\(l0 s o n i).2.1+(l0 s o n i).2.2<=i*s+s:=by
 unfold fg at h1 a;by_cases b:n=0;·grind
 .rw[if_neg b]at h1 a;simp only at h1 a;have d:=by have:=Nat.lt_succ_of_le h1;have:=(Nat.div_lt_iff_lt_mul c).1 this;rw[vm]at this;exact this
  have e:i<=(o+n -1)/s:=by have:o/s<=(o+n -1)/s:=aj6 ae;omega
  grind[aj8,l0]
def atm{s o n}(b:1<=s){x}(hx:x∈oI s o n):x=l0 s o n x.1/\(fg s o n).1<=x.1/\x.1<(fg s o n).1+(fg s o n).2:=by obtain⟨j,a,rfl⟩:=gV.1 hx;rw[List.mem_range]at a;exact⟨aa,by show _<=(fg s o n).1+j;omega,by show(fg s o n).1+j<_;omega⟩
def adQ{a:Type}{pre xs}{x:a}(h:pre++[x]<+:xs):x∈xs:=h.subset (List.mem_append_right _ (vi.2 aa))
def aeA(s o n:Nat)(f:1<=s/\s<=1125899906842624)(p:o+n<=1125899906842624)w:
 aD ax 116 #[J R (s:Int),gI ((o:Int),(n:Int))] w λe w'=>e=aA (gI (((fg s o n).1:Int),((fg s o n).2:Int)))/\aq w w':=by
 by_cases l:n=0;·subst l;have e:fg s o 0=(0,0):=rfl;rw[e];go_enter Tryz.func116,Tryz.ntmps116;have c:=bf w;go_step;refine ag ?_;refine bM c (av #[J _ (o:Int),J _ ((0:Nat):Int)]) (λg w1 c=>?_);refine bx c #[J _ 0,J _ 0] (λh r c=>?_);refine b4 ?_;refine cb (ak au) ?_;refine ah ?_;refine bq c 1 #[J R (o:Int),J R ((0:Nat):Int)] ?_;refine bA (xB (o:Int) ((0:Nat):Int) _ ⟨ae,ae,ae⟩) c (λt c=>?_);refine v4 ?_;refine pl c 1 1 ?_;refine pk (ak aB) ?_;refine cJ ?_;refine a' c 0 (av #[J R 0,J R 0]) (λu c=>?_);refine an ?_;go_wp2_with fail;refine dn (v:=_) (jd aa _ _ _ _ _ _ _ aa (c.aZ 0) A7 aa aw) aa (⟨aa,c.only⟩)
 .obtain⟨a,d⟩:=ex (o/s);obtain⟨b,hb⟩:=ex ((o+n -1)/s);have hab:a<=b:=by rw[<-d,<-hb];exact aj6 ae
  have m:b<=o+n:=by rw[<-hb];exact eC (zH _ _) (GP _ _)
  have e:fg s o n=(a,b -a+1):=by grind[fg]
  rw[e];have j:=hid d;have k:=hid hb;clear d hb e;go_enter Tryz.func116,Tryz.ntmps116;have c:=bf w;go_step;refine ag ?_;refine bM c (av #[J _ (o:Int),J _ (n:Int)]) (λg x c=>?_);refine bx c #[J _ 0,J _ 0] (λh y c=>?_);refine b4 ?_;refine cb (ak au) ?_;refine ah ?_;refine bq c 1 #[J R (o:Int),J R (n:Int)] ?_;refine bA (xB (o:Int) (n:Int) _ ⟨ae,ae,ae⟩) c (λz c=>?_);refine v4 ?_;refine pl c 1 1 ?_;refine cb (ak au) ?_;refine ig ?_;refine bN c [5] (λi _=>match i with|5=>J R ((o:Int)+(n:Int))|_=>aY) (λ_ _=>emp) (λ_=>[]) (λ|1=>[1]|4=>[1]|_=>[]) (λ_=>[]) [0,1,7] (λq=>?_);refine aK ?_;refine dl 0 0 ?_;refine aK ?_;refine aL _ (λ_ _ _=>BC _ _ _ _ aa o s a aa aa f.1 j ae) ?_;refine ea 0 #[J R (o:Int),J R (n:Int)] ?_;refine dD (λ_ _ _=>lN (o:Int) (n:Int) _ ae ae ae) ?_;refine aL _ (λ_ _ _=>pK 3 _ _ 3 aa _ 1 ((o+n -1:Nat):Int) aa aa ae ae ae) ?_;refine aK ?_;refine aL _ (λ_ _ _=>BC _ _ _ _ aa _ s b aa aa f.1 k ae) ?_;refine bp ?_;refine bQ λA c=>?_;replace c:=c.drop 2;refine jt ?_;refine mN (b:Int) (a:Int) ((b -a:Nat):Int) ?_;refine pad _ 1 ((b -a+1:Nat):Int) ?_;refine ah ?_;refine a' c 0 (av #[J R _,J _ ((b -a+1:Nat):Int)]) (λB c=>?_);refine an ?_;go_wp2_with fail;refine dn (v:=_) (jd aa _ _ _ _ _ _ _ aa (c.aZ 0) A7 aa aw) aa (⟨aa,c.only⟩)
def Zo B m d(o n)w(hb:aW w B (pO m d) 120)(b:dR d)(g:o+n<=d.bytes.length):
 aD ax 207 #[dh B,gI ((o:Int),(n:Int))] w λe w'=>e=aA (J R 0)/\aq w w':=by
 have c:=b.len;have hsm:=b.small;obtain⟨q,f⟩:=ex (d.cnt*d.size);have hc1:=b.BJ;have h:(d.size:Int)*(d.cnt:Int)=(q:Int):=by rw[<-f,Kx,Int.natCast_mul]
 rw[f]at c hsm;rw[c]at g;clear f c;go_enter func207,ntmps207;have a:=bf w;go_step;refine ag ?_;refine bM a (av #[J _ (o:Int),J _ (n:Int)]) (λi w1 a=>?_);refine cJ ?_;refine pk (ak au) ?_;refine dQ ?_;refine bq a 0 #[J R (o:Int),J R (n:Int)] ?_;refine bA (xB (o:Int) (n:Int) _ ⟨ae,ae,ae⟩) a (λj a=>?_);refine v2 ?_;refine bq a 0 #[J R (o:Int),J R (n:Int)] ?_;refine bA (lN (o:Int) (n:Int) _ ae ae ae) a (λk a=>?_);refine ah ?_;refine bA (wY B m d _ (aW.aH hb a.only) b) a (λl a=>?_);refine ah ?_;refine bA (Lc B m d _ (aW.aH hb a.only) b) a (λp a=>?_);refine aI _ (nH 3 _ _ 3 aa _ _ _ aa aa h ae ae) ?_;refine cb (ak au) ?_;refine v2 ?_;refine ag ?_;refine ah ?_;refine an ?_;go_wp2_with fail;go_ret;exact⟨aa,a.only⟩
def adB(s o n:Nat)w:
 aD ax 208 #[J R (s:Int),gI ((o:Int),(n:Int))] w λe w'=>∃bX b,e=aA (dJ (ej 280) #[] #[ay (ab ⟨bX,0,af⟩),ay (ab ⟨b,0,af⟩)])/\b3 w w' (both (ai bX #[J R (s:Int)] 3) (ai b #[J R (o:Int),J R (n:Int)] 35)):=by
 go_enter func208,ntmps208;have a:=bf w;go_step;refine ag ?_;refine bM a (J _ _) (λc w1 a=>?_);refine bM a (av #[J _ (o:Int),J _ (n:Int)]) (λd f a=>?_);refine ah ?_;refine ag ?_;refine dP ?_;go_wp2_with fail;go_ret;exact⟨_,_,aa,((a.pick (l':=[ai _ _ 3,ai _ _ 35]) [1,0]).star).fresh 0⟩
theorem adA(s o n:Nat)(w:1<=s/\s<=1125899906842624)(hn:o+n<=1125899906842624)(bX f)ao FX:
 yd ax 280 #[ay (ab ⟨bX,0,af⟩),ay (ab ⟨f,0,af⟩)] (λx:Nat×Nat×Nat=>#[J R (x.1:Int),gI ((x.2.1:Int),(x.2.2:Int))]) ao FX (both (ai bX #[J R (s:Int)] 3) (ai f #[J R (o:Int),J R (n:Int)] 35)) (λ_=>True) (oI s o n):=by
 intro l S gM W F t D E a;obtain⟨xs,Q⟩:∃xs,oI s o n=xs:=⟨_,aa⟩;rw[Q]at D⊢;obtain⟨c,H⟩:∃x,(fg s o n).1=x:=⟨_,aa⟩;obtain⟨d,G⟩:∃x,(fg s o n).2=x:=⟨_,aa⟩;have P:xs.length=d:=by grind[oI]
 have O:∀j,j<d->xs[j]?=ab (l0 s o n (c+j)):=λj I=>by grind[oI]
 have u:∀j,j<d->(c+j)*s<=(l0 s o n _).2.1/\o<=(l0 s o n _).2.1/\0<(l0 s o n _).2.2/\(l0 s o n _).2.1+(l0 s o n _).2.2<=o+n/\(l0 s o n _).2.1+(l0 s o n _).2.2<=(c+j)*s+s:=λj I=>adS w.1 ae ae
 have mb:c+d<=1125899906842625:=by
  rcases lJ d with h|h;·grind[fg]
  .have h1:=u (d -1) ae;have h2:c+(d -1)<=(c+(d -1))*s:=zI _ w.1;omega
 have Y:aE (∀W,aD _ _ #[J _ _,av #[J _ (o:Int),J _ (n:Int)]] W λe w'=>e=aA (av #[J _ (c:Int),J _ (d:Int)])/\aq W w'):=hid (λW=>by have h:=aeA s o n w hn W;rw[H,G]at h;exact h);have wK:=hid P;have Z:=hid O;have X:=hid u;clear Q H G P O u;go_enter Tryz.func280,ntmps280;replace a:=a.fh;go_step;refine ag ?_;refine pl a 0 0 ?_;refine bq a 1 #[J R (o:Int),J R (n:Int)] ?_;refine a6 (Y _) ?_;rintro e w1 ⟨rfl,g⟩;replace a:=a.aH g;refine ba ?_;refine bx a #[J _ 0,J _ 0] (λA aR a=>?_);refine a' a 0 (av _) (λbL a=>?_);refine an ?_;go_step;refine ag ?_;refine ah ?_;refine pl a 0 0 ?_;refine ah ?_;refine an ?_;replace a:=a.pick (l':=[ai bX _ 3,ai f _ 35,ai _ _ 35,t,F]) [1,2,0,3,4];go_wp2_with fail;go_loopw [5] (λz wr=>∃(j:Nat) (t:br),j<=d/\z=J R ((c+j:Nat):Int)/\S (xs.take j) t/\aj ao FX wr [ai bX #[J R (s:Int)] 3,ai f #[J R (o:Int),J R (n:Int)] 35,ai A #[J R (c:Int),J R (d:Int)] 35,t,F]) (λz wr=>c+d -(cw z).toNat);case atStart=>exact⟨0,t,cQ _,aa,E,a⟩
 case round=>
  clear a E;obtain⟨j,t,I,rfl,p,a⟩:=hrel;by_cases hlt:j<d
  .have hx:=Z j hlt;have M:=X j hlt;have y:xs.take (j+1)=xs.take j++[l0 s o n (c+j)]:=by grind[fu]
   have v:xs.take j++[l0 s o n (c+j)]<+:xs:=aF;obtain⟨cb,k⟩:∃x,(l0 s o n (c+j)).2.1=x:=⟨_,aa⟩;obtain⟨i,hpl⟩:∃x,(l0 s o n (c+j)).2.2=x:=⟨_,aa⟩;have N:l0 s o n (c+j)=(c+j,cb,i):=by rw[<-k,<-hpl];rfl
   rw[k,hpl]at M;obtain⟨m,r⟩:∃x,(c+j)*s=x:=⟨_,aa⟩
   have L:kM ((o:Int),(n:Int)) ((m:Int),(s:Int))=((cb:Int),(i:Int)):=by have bB:max o _=cb:=k;have fG:gW _ _ -max o _=i:=hpl;rw[r]at bB fG;unfold kM;simp only;rw[if_pos ae];rw[oh];exact⟨ae,ae⟩
   rw[r]at M;have rV:((c+j:Nat):Int)*(s:Int)=(m:Int):=ae;obtain⟨xl,K⟩:∃b,meets ((o:Int),(n:Int)) ((m:Int),(s:Int))=b:=⟨_,aa⟩;have V:aE (∀W,aD ax 202 _ W λe w'=>e=aA (bg #[av #[J R (cb:Int),J R (i:Int)],ak xl])/\aq W w'):=hid (λW=>by have h:=MT (o:Int) (n:Int) (m:Int) (s:Int) W ⟨ae,ae,ae⟩ ⟨ae,ae,ae⟩;rw[L,K]at h;exact h);rw[N]at v y;have C:=hid v;have Qg:=hid y;clear hx y v k hpl N r L K;go_step;refine ag ?_;refine ah ?_;refine bq a 2 #[J R (c:Int),J R (d:Int)] ?_;refine a6 (lN (c:Int) (d:Int) _ ae ae ae) ?_;rintro e ca ⟨rfl,g⟩;replace a:=a.aH g;refine ba ?_;refine aI (ak aB) (by(go_simp;try omega)) ?_;refine an ?_;go_step;refine ag ?_;refine bq a 1 #[J R (o:Int),J R (n:Int)] ?_;refine ah ?_;refine pl a 0 0 ?_;refine aI _ (nH 3 _ _ 3 aa _ _ _ aa aa rV ae ae) ?_;refine pl a 0 0 ?_;refine ah ?_;refine a6 (V _) ?_;rintro e cF ⟨rfl,g⟩;replace a:=a.aH g;refine ba ?_;iterate 3 refine ah ?_
   refine bx a #[J _ 0,J _ 0] (λU c6 a=>?_);refine a' a 0 (av _) (λdW a=>?_);refine ah ?_;refine an ?_;go_step;refine ct ?_;refine NB 3 ?_;iterate 2 refine ah ?_
   refine bq a 0 #[J R (cb:Int),J R (i:Int)] ?_;refine an ?_;have B:=(a.pick (l':=[t,ai U _ 35,ai bX _ 3,ai f _ 35,ai A _ 35,F]) [4,0,1,2,3,5]).G0;refine Jd (D _ _ _ _ _ C p B) (λb dG hb=>?_) (λ_ _ he=>he.elim (λh=>⟨_,h.1⟩) (λh=>⟨_,h.1⟩)) (Hf aa aa (by simp only[og,jx,kC];rfl));clear B a;rcases I4 hb with⟨rfl,T,q,a⟩|⟨rfl,T,q,a⟩
   .clear hb;replace a:=a.xz;refine vS ?_;refine ah ?_;refine an ?_;go_step;refine ag ?_;refine ah ?_;refine aI _ (lK 3 _ _ 3 aa _ 1 ((c+(j+1):Nat):Int) aa aa ae ae ae) ?_;refine ah ?_;refine an ?_;go_wp2_with fail;go_roundw;case rel=>exact⟨j+1,_,ae,aa,by rw[Qg.out];exact q,a.pick [2,3,4,0,5]⟩
    case measure=>grind[cw]
   .clear hb;replace a:=a.xz;refine vS ?_;refine ah ?_;refine an ?_;go_wp2_with fail;first|go_end0|refine bodyPost_ret (results_none rfl _ _ _) rfl ?_
    exact vo.cut C q ((aj.bO (l:=[ai bX _ 3,ai f _ 35]) (a.pick (l':=[ai bX _ 3,ai f _ 35,T,F]) [2,3,0,5])).pick [1,0,2])
  .obtain rfl:d=j:=ae;have S1:=tF (by rw[wK];exact cm _);rw[S1]at p;go_step;refine ag ?_;refine ah ?_;refine bq a 2 #[J R (c:Int),J R (d:Int)] ?_;refine a6 (lN (c:Int) (d:Int) _ ae ae ae) ?_;rintro e e8 ⟨rfl,g⟩;replace a:=a.aH g;refine ba ?_;refine aI (ak au) (by(go_simp;try omega)) ?_;refine an ?_;go_wp2_with fail;first|go_end0|refine bodyPost_ret (results_none rfl _ _ _) rfl ?_
   exact vo.all p trivial ((aj.bO (l:=[ai bX _ 3,ai f _ 35]) (a.pick (l':=[ai bX _ 3,ai f _ 35,t,F]) [0,1,3,4])).pick [1,0,2])
section
def X3:∀(xs cn:List Int),xs.length=cn.length->((dF xs.length).all λi=>xs.getD i 0==cn.getD i 0)=(xs==cn)
 |[],[],_=>aa
 |x::xs,y::cn,h=>by have a:=X3 xs cn aF;rw[jT,List.range_succ_eq_map,Kq,List.all_map];grind
 |[],_::_,h=>by grind
 |_::_,[],h=>by grind
section
variable {P:eu}
def auy w d (t e) n (c:P.underlying t=ab (wz n e)) (a:P.underlying e=ab (.int d')) (hsz:∀w,(mu e).run P w=a7 1 w)
 (xs cn) (hx:xs.length=n) (hy:cn.length=n):(OK (d+2) t (av (aX a8 xs [])) (av (aX a8 cn []))).run P w=a7 (xs==cn) w:=by
 rw[<-X3 xs cn (hx.trans hy.symm),hx,List.range_eq_range',OK];simp only[gj,gF c,ji,hsz,aya,ayb,Nat.sub_zero,Nat.add_sub_cancel,Nat.div_one];have b:∀i∈aj1 0 n 1,i<n:=λi hi=>by grind
 generalize aj1 0 n 1=l at b⊢;induction l with
 |nil=>simp
 |cons i l h=>
  have hi:i<n:=b i aT
  have f:(part e (aX a8 xs []) (i*1)).run P w=a7 (a8 (xs.getD i 0)) w:=by simp[aX,part,tu,gF a,cj (show i<xs.length by omega)]
  have g:(part e (aX a8 cn []) (i*1)).run P w=a7 (a8 (cn.getD i 0)) w:=by simp[aX,part,tu,gF a,cj (show i<cn.length by omega)]
  have aI:(OK (d+1) e (a8 (xs.getD i 0)) (a8 (cn.getD i 0))).run P w=a7 (xs.getD i 0==cn.getD i 0) w:=by show(OK (d+1) e (J d' _) (J d' _)).run P w=_;rw[run_equalIn_int w d e _ _ _ _ a]
  simp only[List.forIn_cons,gj,f,g,aI,ji,Kq];cases hb:(xs.getD i 0==cn.getD i 0);·simp
  .grind[jR,ji]
def yg {o} {a:bT} {w} (t e) n (x y) g (d:o.op=.binOp .neq t x y g) (f:P.underlying t=ab (wz n e)) (b:P.underlying e=ab (.int d')) (j:(P.info? e).map (·.size)=ab 1) (c:P.eqGuardType P.depth t=au)
 (xs cn) (hx:a.eval x=av (aX a8 xs [])) (hy:a.eval y=av (aX a8 cn [])) (iI:xs.length=n) (aqb:cn.length=n):
 (bt a.eval o).run P w=a7 (c8 (ak (!(xs==cn)))) w:=by
 have hsz:∀w,(mu e).run P w=a7 1 w:=λw=>by
  cases hi:P.info? e with
  |none=>grind
  |some i=>grind[run_sizeOf,Program.cellsOf]
 have h:=auy (P:=P) w 9998 t e n f b hsz xs cn iI aqb;unfold bt;simp[d,hx,hy,run_eqGuard_agg w _ _ _ _ _ _ c,run_neq_struct w,h]
def adh{o}{a:bT}{w cs v}{ft k:Nat}ty x f(g:o.op=.field ty x f)(hx:a.eval x=av cs)(b:(match P.underlying ty with|some (.struct fs)=>(fs[f]?).map (λf=>(f.type,f.offset))|_=>af)=ab (ft,k))(h:(P.underlying ft).map (λd=>d.isRow)=ab au)(hv:cs[k]?=ab v):
 (bt a.eval o).run P w=a7 (c8 v) w:=by
 cases hu:P.underlying ty with
 |none=>grind
 |some d=>
  cases d with
  |struct fs=>
   rw[hu]at b;cases hf:fs[f]? with
   |none=>grind
   |some c=>
    simp only[hf,oW,wQ,oh]at b;obtain⟨rfl,rfl⟩:=b;cases hd:P.underlying c.type with
    |none=>grind
    |some e=>
     have hagg:(tu c.type).run P w=a7 au w:=by unfold tu;rw[gj,gF hd w];cases e<;>simp_all
     unfold bt;simp[g,hx,Instr.field,gF hu,hf,part,hagg,hv,asAgg]
  |_=>simp[hu]at b
end
def amu{o n g h S}:(a1 o n g h S).extract 2 (2+(aX a8 g.l []).size)=aX a8 g.l []:=by
 have h1:(aX a8 g.l []).size=32:=by simp[aX,g.len]
 have a:(g.l.map a8).length=32:=by simp[g.len]
 rw[h1];apply afV;rw[afY];simp only[a1,aX,ajV,j6,tG,Xy,List.drop_zero];rw[aj3 a]
def amv{o n g h S}:(a1 o n g h S).extract 34 (34+(aX a8 h.l []).size)=aX a8 h.l []:=by
 have h1:(aX a8 h.l []).size=32:=by simp[aX,h.len]
 have a:(h.l.map a8).length=32:=by simp[h.len]
 have b:(g.l.map a8).length=32:=by simp[g.len]
 rw[h1];apply afV;rw[afY];simp only[a1,aX,ajV,j6,tG];rw[show(34:Nat)=32+1+1 from aa,Xy,Xy,List.drop_left' b,aj3 a]
def nE(w:aM)(A:Option bU):Prop:=∀b,dU A b->b<w.heap.size
def nE.aH{w w' A}(h:nE w A)(g:aq w w'):nE w' A:=λb hb=>Nat.lt_of_lt_of_le (h b hb) g.size
def Tx a aJ c2 bs w ty(d:bs.length<=35184372088832)(hcell:aW w a #[ad aJ bs.length c2] ty)(hb:bR w aJ bs)(c:nE w aJ):
 aD ax 76 #[ad (ab ⟨a,0,af⟩) 1 1] w λe w'=>e=aA (av (aX a8 (ib bs) []))/\aq w w':=
 aeJ a 0 1 aJ c2 bs w d (hcell.cell 0 aa) hb (λb off e=>c b ⟨off,af,e⟩)
end
end Go.Proofs.YtcmhplknoglbkaaGreat
