/- Part 12 of the proof of TopConvertsSaid. -/
import Derived.Shelf.Bytes.SlIndexWhole
import Derived.Test.YtcmhplknoglbkaaGreatProg
import Derived.Test.YtcmhplknoglbkaaGreatQc0
import Derived.Test.YtcmhplknoglbkaaGreatQc3
import Derived.Test.YtcmhplknoglbkaaGreatQc7
import Derived.Test.YtcmhplknoglbkaaGreatQc8
import Derived.Test.YtcmhplknoglbkaaGreatQc11
set_option linter.all false
set_option maxRecDepth 100000
set_option maxHeartbeats 4000000
open Go.Proofs.Tryz
open Array renaming size->jD
open Bool renaming and_eq_true->v8,eq_false_iff->af4,false->au,true->aB,true_and->Ju
open Classical renaming byContradiction->U5
open Go renaming Addr->bU,Calls->aD,bodyPost_ret->dn,execOp->bt,results_cell_row->jd,run_convert_bytes_back->ait,undef->aY,wpList_nil->an,wp_region_lit->cM
open Go.Ending renaming returned->aA
open Go.IntKind renaming i64->R,u8->d'
open Go.Lib renaming add_plain'->agr,bytesOf->FV,index->Vd
open Go.Operand renaming tmp->bb
open Go.Proofs.Lays renaming n185->axM
open Go.Proofs.Tryz renaming func161->JJ,func186->wm,func238->F0,func25->OQ,func6->F1,ntmps161->JM,ntmps186->wq,ntmps238->F3,ntmps25->OW,ntmps6->OY,ntmps73->V2,prog->ax,underlying22->dI,underlying24->eA,underlying35->A7,underlying5->lj,underlying73->fW,underlying9->zl
open Go.Proofs renaming intOf->cd
open Go.RowKit renaming Hid->aE,intOf->cw
open Go.Value renaming agg->av,bool->ak,int->J,pointer->ay,slice->ad,string->Pf,tuple->bg
open Int renaming eq_ofNat_of_zero_le->tC,le_of_lt->DH,lt_or_eq_of_le->ajM,toNat_natCast->DI
open List.Pairwise renaming filter->Xx,nil->GI
open List.Perm renaming of_eq->ajS,refl->Bp
open List renaming all_eq_true->DK,append_assoc->j5,append_nil->j6,drop_of_length_le->GK,eq_nil_iff_forall_not_mem->DM,eq_nil_of_length_eq_zero->jH,ext_getElem?->wM,filter_append->pC,getElem?_append_left->tD,getElem?_append_right->oe,getElem?_eq_getElem->cj,getElem?_eq_some_iff->eQ,getElem?_inj->XD,getElem?_map->kB,getElem?_range->Kt,getElem?_set_ne->Ku,getElem?_set_self->ajW,getElem?_take->tE,getElem_mem->DQ,length_append->dv,length_eq_zero_iff->Qv,length_map->gU,length_take->oT,map_append->gx,map_cons->jx,map_map->GM,mem_cons->gy,mem_filter->nb,mem_flatMap->Kv,mem_iff_getElem->Kw,mem_iff_getElem?->oU,mem_map->gV,mem_of_find?_eq_some->ajY,mem_of_getElem?->cL,mem_range->nc,not_mem_nil->ga,pairwise_iff_getElem->l3,pairwise_map->ya,range->dF,range_succ->pE,take_add_one->fu,take_length->ik
open Nat renaming le_refl->cm,lt_succ_iff_lt_or_eq->wP,mul_le_mul->Ky,not_lt_zero->Bv,succ_mul->vm,zero_le->cQ
open Option renaming map_some->oW,none->af,some->ab,toList_some->yb
open Or renaming inl->bH,inr->b1
open UInt8 renaming ofNat->ake
namespace Go.Proofs.YtcmhplknoglbkaaGreat
open Go.Shelf
def Tryz.aq4:Go.Shelf.Ren:=⟨λ|185=>189|187=>257|115=>258|253=>259|224=>260|254=>261|255=>314|291=>315|n=>n,λ|37=>22|3=>3|4=>4|0=>0|5=>5|46=>311|9=>9|146=>418|51=>315|n=>n,λ|1=>0|n=>n⟩
def Tryz.aq3:axM ax Tryz.aq4:={
 mixed:=aS
 f115:=func258.trans (congrArg ab aS)
 f185:=func189.trans (congrArg ab aS)
 f187:=func257.trans (congrArg ab aS)
 f224:=func260.trans (congrArg ab aS)
 f253:=func259.trans (congrArg ab aS)
 f254:=func261.trans (congrArg ab aS)
 f255:=func314.trans (congrArg ab aS)
 f291:=func315.trans (congrArg ab aS)
 t0:=Tryz.underlying0
 a0:=Tryz.isAgg0
 z0:=Tryz.sizeOf0
 v0:=Tryz.zeroValue0
 t3:=Tryz.underlying3
 a3:=Tryz.isAgg3
 z3:=Tryz.sizeOf3
 v3:=Tryz.zeroValue3
 t4:=Tryz.underlying4
 a4:=Tryz.isAgg4
 z4:=Tryz.sizeOf4
 v4:=Tryz.zeroValue4
 t5:=lj
 a5:=Tryz.isAgg5
 z5:=Tryz.sizeOf5
 v5:=Tryz.zeroValue5
 t9:=zl
 a9:=Tryz.isAgg9
 z9:=Tryz.sizeOf9
 v9:=Tryz.zeroValue9
 t37:=dI
 a37:=isAgg22
 z37:=sizeOf22
 v37:=zeroValue22
 t46:=Tryz.underlying311
 a46:=Tryz.isAgg311
 z46:=Tryz.sizeOf311
 v46:=Tryz.zeroValue311
 t51:=Tryz.underlying315
 a51:=Tryz.isAgg315
 z51:=Tryz.sizeOf315
 v51:=Tryz.zeroValue315
 t146:=underlying418
 a146:=isAgg418
 z146:=sizeOf418
 v146:=zeroValue418
 g1:=by kernel_rfl}
open Go.RowKit Go.MapKept
def jG(l:List Int):Prop:=∀x∈l,0<=x/\x<256
def jG.drop{l}(h:jG l)n:jG (l.drop n):=λx hx=>h x (List.mem_of_mem_drop hx)
def jG.take{l}(h:jG l)n:jG (l.take n):=λx hx=>h x (List.mem_of_mem_take hx)
def xh(xs cn:List Int):Int:=Vd (FV xs) (FV cn)
def aqm(a aJ)(c1 c2)(xs cn)w m(h1:bR w a xs)(b:bR w aJ cn)(f:0<xs.length)(g:0<cn.length)(eR:jG xs)(eY:jG cn)(hc:xs.length<=c1)(j:xs.length<=1048576)(hs2:cn.length<=1048576)(c:w.cell? ⟨0,0,af⟩=ab (J R m)):
 aD ax 189 #[ad a xs.length c1,ad aJ cn.length c2] w λe w'=>e=aA (J R (xh xs cn))/\aq w w':=by
 obtain⟨g1,fa,rfl,k⟩:=h1 f;obtain⟨g2,d,rfl,l⟩:=b g;exact(Any.bytes_Index_at Tryz.aq3 ⟨g1,fa,af⟩ ⟨g2,d,af⟩ xs.length c1 cn.length c2 xs cn m w aa aa eR eY (λi hi=>by grind[agr]) (λi hi=>by grind[agr]) hc ae ae c).mono λe w' ⟨h,q,b7⟩=>⟨h,b7▸ar.drewN _ _⟩
def aqe(xs cn):-1<=xh xs cn/\xh xs cn<=xs.length:=by
 refine⟨Lib.index_ge _ _,?_⟩;unfold xh;rw[<-Lib.bytesOf_length xs];generalize FV xs=l;generalize FV cn=s;induction l with
 |nil=>grind[Vd]
 |cons b l a=>grind[Vd]
def o0:List Int->List Int->Nat
 |x::xs,y::cn=>if x=y then o0 xs cn+1 else 0
 |_,_=>0
def anH{b o:List Int}{n k}(h:n<b.length)(a:k<o.length):o0 (b.drop n) (o.drop k)=if b[n]?.getD 0=o[k]?.getD 0 then o0 (b.drop (n+1)) (o.drop (k+1))+1 else 0:=by grind[List.drop_eq_getElem_cons,o0]
def anF{b o:List Int}{n k}(h:b.length<=n):o0 (b.drop n) (o.drop k)=0:=by grind[GK,o0]
def anG{b o:List Int}{n k}(h:o.length<=k):o0 (b.drop n) (o.drop k)=0:=by grind[GK,o0]
def nQ(old b:List Int)(blk:Nat):Int×Int:=
 if b.length<blk then(-1,0)else if xh old (b.take blk)<0 then(-1,0)else(xh old (b.take blk),((blk+o0 (b.drop blk) (old.drop ((xh old (b.take blk)).toNat+blk)):Nat):Int))
def arA(da jN blk:Nat)(d aJ)(c1 c2)(old b)Z w(hblk:1<=blk/\blk<=1048576)(hop:0<old.length)(hM:old.length<=1048576)(aao:b.length<=1048576)(hc2:old.length<=c2)(hc1:b.length<=c1)(Q:bR w d b)(hold:bR w aJ old)(N:jG b)(O:jG old)(hb1:aW w da #[J R (blk:Int)] 3)(hb2:aW w jN #[ad aJ old.length c2] 22)(P:w.cell? ⟨0,0,af⟩=ab (J R Z)):
 aD ax 188 #[ad d b.length c1,ay (ab ⟨da,0,af⟩),ay (ab ⟨jN,0,af⟩)] w λe w'=>e=aA (bg #[J R (nQ old b blk).1,J R (nQ old b blk).2])/\aq w w':=by
 have F:=hid Q;have G:=hid hold;have f:=hid hb1;have j:=hid hb2;have bV:=hid P;obtain⟨hb0,Aa⟩:=hblk;have Py:=hid N;have Pz:=hid O;clear Q hold hb1 hb2 P N O;go_enter Tryz.func188,ntmps188;have a:=bf w;go_step;refine ag ?_;refine dP ?_;by_cases hbl:b.length<blk;·have LD:(blk:Int)>(b.length:Int):=ae;have c:=hid (show nQ old b _=(-1,0)from if_pos hbl);refine ag ?_;refine iK f.out a.only ?_;refine cb (ak au) ?_;refine ah ?_;refine iK f a.only ?_;refine v2 ?_;refine cb (ak aB) ?_;refine pk (ak aB) ?_;refine ag ?_;refine dP ?_;go_wp2_with fail;go_ret2;exact⟨by rw[c];rfl,a.only⟩
 .have LD:¬(blk:Int)>(b.length:Int):=ae;refine ag ?_;refine iK f.out a.only ?_;refine cb (ak au) ?_;refine ah ?_;refine iK f a.only ?_;refine v2 ?_;refine cb (ak au) ?_;refine pk (ak au) ?_;refine an ?_;have X:(b.take blk).length=blk:=aF
  have z:=hid (λW g=>by have h:=aqm aJ d c2 c1 _ (b.take blk) W Z (G.out.aH g) ((F.out.aH g).FH ae) hop ae Pz (Py.out.take _) hc2 ae ae (G3 g bV);rw[X]at h;exact h);clear X;have V:=aqe old (b.take blk);have l:nQ _ b _=if xh _ _<0 then(-1,0)else(xh old _,((blk+o0 _ _:Nat):Int)):=if_neg hbl;obtain⟨q,T⟩:=ex (xh old (b.take blk));rw[T]at V z l;obtain⟨nP,mI⟩:=V;clear T;by_cases U:q<0;·rw[if_pos U]at l;have c:=hid l;clear l;refine ct ?_;refine bN a [4] (λi _=>match i with|4=>J R q|_=>aY) (λ_ _=>emp) (λ_=>[]) (λ_=>[]) (λ_=>[]) [4] (λm=>?_);refine aL (ad aJ _ c2) (λ_ _ a=>fy aa aa (aW.aH j a.only) aa aw) ?_;refine aK ?_;refine aL (J _ _) (λ_ _ a=>fy aa aa (aW.aH f a.only) aa aw) ?_;refine aL _ (λ_ _ _=>qY 22 5 1 _ _ aa dI aw d _ c1 blk aa aa ae) ?_;refine dD (λ_ _ a=>z _ a.only) ?_;refine aK ?_;refine bQ λw1 a=>?_;replace a:=a.drop 0;refine b4 ?_;refine cb (ak aB) ?_;refine ag ?_;refine dP ?_;go_wp2_with fail;go_ret2;exact⟨by rw[c];rfl,a.only⟩
  .rw[if_neg U]at l;have c:=hid l;clear l;refine ct ?_;refine bN a [4] (λi _=>match i with|4=>J R q|_=>aY) (λ_ _=>emp) (λ_=>[]) (λ_=>[]) (λ_=>[]) [4] (λm=>?_);refine aL (ad aJ _ c2) (λ_ _ a=>fy aa aa (aW.aH j a.only) aa aw) ?_;refine aK ?_;refine aL (J _ _) (λ_ _ a=>fy aa aa (aW.aH f a.only) aa aw) ?_;refine aL _ (λ_ _ _=>qY 22 5 1 _ _ aa dI aw d _ c1 blk aa aa ae) ?_;refine dD (λ_ _ a=>z _ a.only) ?_;refine aK ?_;refine bQ λaR a=>?_;replace a:=a.drop 0;obtain⟨q,rfl⟩:=tC (show 0<=q by omega);refine b4 ?_;refine cb (ak au) ?_;refine ag ?_;refine iK f.out a.only ?_;refine bP ?_;rw[show((q:Int)).toNat+blk=q+blk from aT]at c;obtain⟨p,v,K,M⟩:=F (show 0<b.length by omega);obtain⟨r,o8,L,S⟩:=G hop;have D:=hid K;have E:=hid L;have aiB:=hid M;have ai9:=hid S;clear K L M S;have H:=a;go_wp2_with fail;go_loopw [7] (λC wr=>∃n:Nat,blk<=n/\n<=b.length/\C=J R (n:Int)/\aE (blk+o0 (b.drop blk) (old.drop (q+blk))=n+o0 (b.drop n) (old.drop (q+n)))/\aj w (λ_=>False) wr []) (λC wr=>b.length -(cw C).toNat);case atStart=>exact⟨_,cm _,ae,aa,hid aa,H⟩
   case round=>
    clear a H;obtain⟨n,nM,vH,rfl,o,a⟩:=hrel;by_cases s:n<b.length
    .have hnz:(n:Int)<(b.length:Int):=ae;by_cases t:q+n<old.length
     .have ui:((q+n:Nat):Int)<(old.length:Int):=ae;have A:aE (∀W,aq w W->W.cell? _=ab _):=hid (λW g=>G3 g (aiB n s));have B:aE (∀W,aq w W->W.cell? _=ab _):=hid (λW g=>G3 g (ai9 _ t));have hst:=anH (k:=_) s t;obtain⟨x,hx⟩:=ex (b[n]?.getD 0);obtain⟨y,Y⟩:=ex (old[q+n]?.getD 0);rw[hx]at hst A;rw[Y]at hst B;have I:=hid hst;clear hst hx Y;by_cases u:x=y
      .
       go_step;refine ct ?_;refine bN a [] (λ_ _=>aY) (λ_ _=>emp) (λ_=>[]) (λ_=>[]) (λ_=>[]) [] (λm=>?_);refine c7 ?_;refine aL (ak aB) (λ_ _ _=>by(go_simp;try omega)) ?_;refine c7 ?_;refine aL _ (λ_ _ _=>lK 3 _ _ 3 aa _ _ ((q+n:Nat):Int) aa aa ae ae ae) ?_;refine aL (ad aJ _ c2) (λ_ _ a=>fy aa aa (aW.aH j a.only) aa aw) ?_;refine aK ?_;refine aL (ak aB) (λ_ _ _=>by(go_simp;try omega)) ?_;refine gB (ak aB) ?_;refine c7 ?_;refine aL _ (λ_ _ _=>cH 22 5 1 _ _ aa dI aw p v _ c1 n ((v+n)) (by show ad d _ _=_;rw[D]) aa s ae) ?_;refine aL _ (λ_ _ a=>E1 5 _ aa p _ aa (A _ a.only) aw) ?_;refine aL (ad aJ _ c2) (λ_ _ a=>fy aa aa (aW.aH j a.only) aa aw) ?_;refine bp ?_;refine aL _ (λ_ _ _=>lK 3 _ _ 3 aa _ _ ((q+n:Nat):Int) aa aa ae ae ae) ?_;refine aL _ (λ_ _ _=>cH 22 5 1 _ (bb 44) aa dI aw r o8 _ c2 ((q+n)) ((o8+(q+n))) (by show ad aJ _ _=_;rw[E]) aa t ae) ?_;refine aL _ (λ_ _ a=>E1 5 _ aa r _ aa (B _ a.only) aw) ?_;refine aL (ak aB) (λ_ _ _=>by(go_simp;try exact u)) ?_;refine gB (ak aB) ?_;refine bQ λbL a=>?_;refine b4 ?_;refine pad (n:Int) 1 ((n+1:Nat):Int) ?_;refine bP ?_;go_wp2_with fail;go_roundw;case rel=>exact⟨n+1,ae,ae,aa,hid (by rw[o,I,if_pos u];show _=n+1+o0 _ (old.drop (q+n+1));omega),a⟩
       case measure=>simp[cw]<;>omega
      .
       go_step;refine ct ?_;refine bN a [] (λ_ _=>aY) (λ_ _=>emp) (λ_=>[]) (λ_=>[]) (λ_=>[]) [] (λm=>?_);refine c7 ?_;refine aL (ak aB) (λ_ _ _=>by(go_simp;try omega)) ?_;refine c7 ?_;refine aL _ (λ_ _ _=>lK 3 _ _ 3 aa _ _ ((q+n:Nat):Int) aa aa ae ae ae) ?_;refine aL (ad aJ _ c2) (λ_ _ a=>fy aa aa (aW.aH j a.only) aa aw) ?_;refine aK ?_;refine aL (ak aB) (λ_ _ _=>by(go_simp;try omega)) ?_;refine gB (ak aB) ?_;refine c7 ?_;refine aL _ (λ_ _ _=>cH 22 5 1 _ _ aa dI aw p v _ c1 n ((v+n)) (by show ad d _ _=_;rw[D]) aa s ae) ?_;refine aL _ (λ_ _ a=>E1 5 _ aa p _ aa (A _ a.only) aw) ?_;refine aL (ad aJ _ c2) (λ_ _ a=>fy aa aa (aW.aH j a.only) aa aw) ?_;refine bp ?_;refine aL _ (λ_ _ _=>lK 3 _ _ 3 aa _ _ ((q+n:Nat):Int) aa aa ae ae ae) ?_;refine aL _ (λ_ _ _=>cH 22 5 1 _ (bb 44) aa dI aw r o8 _ c2 ((q+n)) ((o8+(q+n))) (by show ad aJ _ _=_;rw[E]) aa t ae) ?_;refine aL _ (λ_ _ a=>E1 5 _ aa r _ aa (B _ a.only) aw) ?_;refine aL (ak au) (λ_ _ _=>by(go_simp;try exact u)) ?_;refine gB (ak au) ?_;refine bQ λca a=>?_;refine ag ?_;refine v4 ?_;refine an ?_;go_wp2_with fail;go_ret2;exact⟨by rw[c,o,I,if_neg u];rfl,a.only⟩
     .have ui:¬((q+n:Nat):Int)<(old.length:Int):=ae;go_step;refine ct ?_;refine bN a [] (λ_ _=>aY) (λ_ _=>emp) (λ_=>[]) (λ_=>[]) (λ_=>[]) [] (λm=>?_);refine c7 ?_;refine aL (ak aB) (λ_ _ _=>by(go_simp;try omega)) ?_;refine c7 ?_;refine aL _ (λ_ _ _=>lK 3 _ _ 3 aa _ _ ((q+n:Nat):Int) aa aa ae ae ae) ?_;refine aL (ad aJ _ c2) (λ_ _ a=>fy aa aa (aW.aH j a.only) aa aw) ?_;refine aK ?_;refine aL (ak au) (λ_ _ _=>by(go_simp;try omega)) ?_;refine gB (ak au) ?_;refine aK ?_;iterate 11 refine ds ?_
      refine gB (ak au) ?_;refine bQ λcF a=>?_;refine ag ?_;refine v4 ?_;refine an ?_;go_wp2_with fail;go_ret2;exact⟨by rw[c,o,anG (n:=n) (k:=_) ae];rfl,a.only⟩
    .have hnz:¬(n:Int)<(b.length:Int):=ae;go_step;refine ct ?_;refine bN a [] (λ_ _=>aY) (λ_ _=>emp) (λ_=>[]) (λ_=>[]) (λ_=>[]) [] (λm=>?_);refine c7 ?_;refine aL (ak au) (λ_ _ _=>by(go_simp;try omega)) ?_;refine aK ?_;iterate 6 refine ds ?_
     refine gB (ak au) ?_;refine aK ?_;iterate 11 refine ds ?_
     refine gB (ak au) ?_;refine bQ λc6 a=>?_;refine ag ?_;refine v4 ?_;refine an ?_;go_wp2_with fail;go_ret2;exact⟨by rw[c,o,anF (n:=n) (k:=_) ae];rfl,a.only⟩
def nK(new:List Int)(ms:List bG)(fr p:Nat):List bG:=if fr<p then ms++[⟨2,(fr:Int),0,0,(new.drop fr).take (p -fr)⟩]else ms
def Zu new ms(fr p):(nK new ms fr p).length<=ms.length+1:=by grind[nK]
def Zt{new ms fr p}(h:∀m∈ms,m.data.length<=new.length):∀m∈nK new ms fr p,m.data.length<=new.length:=by grind[nK,List.mem_singleton]
def xo(old new:List Int)(blk:Nat):Nat->Nat->Nat->List bG->List bG
 |0,p,fr,ms=>nK new ms fr p
 |k+1,p,fr,ms=>if p<new.length then(if(nQ old (new.drop p) blk).1<0 then xo old new blk k (p+1) fr ms
  else xo old new blk k (p+(nQ old (new.drop p) blk).2.toNat) (p+(nQ old (new.drop p) blk).2.toNat) (nK new ms fr p++[⟨1,(p:Int),(nQ old (new.drop p) blk).1,(nQ old (new.drop p) blk).2,[]⟩]))else nK new ms fr p
theorem Zn:∀(xs cn),o0 xs cn<=xs.length
 |[],_=>by simp[o0]
 |x::xs,[]=>by simp[o0]
 |x::xs,y::cn=>by rw[o0];have:=Zn xs cn;split<;>simp<;>omega
def arz{old b blk}(hb:1<=blk)(h:¬(nQ old b blk).1<0):∃n:Nat,(nQ old b blk).2=(n:Int)/\1<=n/\n<=b.length:=by
 unfold nQ at h⊢;split at h;·omega
 .split at h;·omega
  .rename_i h1 a;rw[if_neg h1,if_neg a];refine⟨_,aa,ae,?_⟩;grind[Zn]
def Zx(v r t fr p n c c1:Nat)(A k)new l(ao w)FX F(T:fr<=p)(hpl:p<=new.length)(hc1:new.length<=c1)(V:new.length<=1048576)(U:n<=1048576)(B:(l.map (·.1)).length=n)(C:∀W,ar FX ao W->bR W k new)(f:aj ao FX w [ai v #[J R (fr:Int)] 3,ai r #[ad A n c] 24,bn A n c 73 5 (cz l),gC l,ai t #[ad k new.length c1] 22,F]):
 aD ax 99 #[J R (p:Int),ay (ab ⟨v,0,af⟩),ay (ab ⟨r,0,af⟩),ay (ab ⟨t,0,af⟩)] w λe w'=>e=aA (bg #[])/\∃o s l',l'.map (·.1)=nK new (l.map (·.1)) fr p/\(l'.map (·.1)).length=(nK new (l.map (·.1)) fr p).length/\aj ao FX w' [ai v #[J R (fr:Int)] 3,ai r #[ad o (nK new (l.map (·.1)) fr p).length s] 24,bn o ((nK new (l.map (·.1)) fr p).length) s 73 5 (cz l'),gC l',ai t #[ad k new.length c1] 22,F]:=by
 have G:=hid C;have y:=hid B;clear C B;by_cases S:fr<p
 .have L:(p:Int)>(fr:Int):=ae;obtain⟨d,z⟩:=ex ((new.drop fr).take (p -fr));have Q:d.length=p -fr:=aF;have H:=hid (λW g=>by have h:=(G W g).win (i:=fr) (q:=p) hc1 hpl;rwa [z]at h);have j:aE (nK new (l.map (·.1)) fr p=l.map (·.1)++[⟨2,(fr:Int),0,0,d⟩]):=hid (by grind[nK]);clear z;go_enter Tryz.func99,Tryz.ntmps99;go_step;refine ag ?_;refine ah ?_;refine pl f 0 0 ?_;refine cb (ak aB) ?_;refine ct ?_;refine bN f [6,7,8,9,10] (λi u=>match i with|6=>ad (ab ⟨u.b,0,af⟩) 1 1|7=>av #[J R 2,J R (fr:Int),J R 0,J R 0,ad u.A d.length u.c]|8=>ad (ab ⟨u.b,0,af⟩) 1 1|9=>ad u.A (n+1) u.c|_=>aY) (λa=>λ|6=>ai ((a 6).b) #[ad (fE k c1 fr 1) d.length (c1 -fr)] 22|7=>cc ((a 7).A) ((a 7).c) d|8=>ai ((a 8).b) #[J R 2,J R (fr:Int),J R 0,J R 0,ad (a 7).A d.length (a 7).c] 73|9=>bn ((a 9).A) (n+1) ((a 9).c) 73 5 ((cz l)++(jk ⟨2,(fr:Int),0,0,d⟩ (a 7).A (a 7).c))|10=>ai r #[ad (a 9).A (n+1) (a 9).c] 24|_=>emp) (λ|9=>[2]|10=>[1]|_=>[]) (λ|0=>[1]|1=>[0]|2=>[4]|3=>[0]|7=>[12]|9=>[14]|_=>[]) (λ|6=>[6]|7=>[7]|8=>[7,8]|9=>[7,9]|10=>[9]|_=>[]) [0,3,4,5,12,13,14,15,16] (λa=>?_);refine dl 0 0 ?_;refine dl 0 0 ?_;refine dl 0 0 ?_;refine dl 0 0 ?_;refine aK ?_;refine aL _ (λ_ _ _=>IW 22 5 1 _ _ _ aa dI aw k _ c1 fr p d.length aa aa aa ae ae) ?_;refine lM _ 22 ?_;refine df (λN Fr f=>(Tg _ _ _ _ d N ((f.aZ 0).cell 0 aa) (H _ f.only) ae).mono ?_) ?_;·rintro e X ⟨o,s,rfl,M,g⟩;exact⟨{A:=o,c:=s},aa,f.js g M⟩
  refine lM #[J _ 2,J R _,J R 0,J _ 0,ad (a 7).A _ (a 7).c] 73 ?_;refine tQ (m:=1) 56 (λ_ _ f=>aW.cellsOf (m:=1) (f.aZ 1) aa) (D2 ⟨2,_,0,0,d⟩ _ _) ?_ (hby:=by omega);refine fY _ ?_;refine bQ λw1 f=>?_;generalize (a 6).b=O at f⊢;generalize (a 7).A=D at f⊢;generalize (a 7).c=I at f⊢;generalize (a 8).b=P at f⊢;generalize (a 9).A=E at f⊢;generalize (a 9).c=K at f⊢;have x:=f.pk [1,5,0,8,7,2,3];replace x:=aj.Ld (m:=⟨2,(fr:Int),0,0,d⟩) x;go_wp2_with fail;first|go_end0|refine bodyPost_ret (results_none rfl _ _ _) rfl ?_
  refine⟨aa,E,K,l++[(⟨2,_,0,0,d⟩,D,I)],by rw[j,gx];rfl,by rw[j];simp,?_⟩;rw[j,dv,y,BL,D9];exact x.pick [1,2,3,0,4,5]
 .have L:¬(p:Int)>(fr:Int):=ae;have j:aE (nK new (l.map (·.1)) fr p=l.map (·.1)):=hid (by grind[nK]);go_enter Tryz.func99,Tryz.ntmps99;go_step;refine ag ?_;refine ah ?_;refine pl f 0 0 ?_;refine cb (ak au) ?_;refine an ?_;go_wp2_with fail;first|go_end0|refine bodyPost_ret (results_none rfl _ _ _) rfl ?_
  refine⟨aa,A,c,l,j.out.symm,by rw[j];simp,?_⟩;rw[j,y];exact f
def arB A(c n blk:Nat)w:
 aD ax 98 #[ad A c n,J R (blk:Int)] w λe w'=>∃da jN,e=aA (.func (.func 188) #[] #[ay (ab ⟨da,0,af⟩),ay (ab ⟨jN,0,af⟩)])/\aj w (λ_=>False) w' [ai da #[J R (blk:Int)] 3,ai jN #[ad A c n] 22]:=by
 go_enter func98,ntmps98;have a:=bf w;go_step;refine ag ?_;refine bM a (ad A c n) (λb w1 a=>?_);refine bM a (J _ _) (λd f a=>?_);refine ah ?_;refine ag ?_;refine dP ?_;go_wp2_with fail;go_ret;exact⟨_,_,aa,(a.pick (l':=_) [0,1])⟩
def amA{N ms}{m:bG}(h:∀x∈ms,x.data.length<=N)(a:m.data.length<=N):∀x∈ms++[m],x.data.length<=N:=aF
def arK{old new blk k p fr ms}(h:p<new.length)(hk:new.length -p<=k+1):xo old new blk (k+1) p fr ms=if(nQ old (new.drop p) blk).1<0 then xo old new blk k (p+1) fr ms
 else xo old new blk k (p+(nQ old (new.drop p) blk).2.toNat) (p+(nQ old (new.drop p) blk).2.toNat) (nK new ms fr p++[⟨1,(p:Int),(nQ old (new.drop p) blk).1,(nQ old (new.drop p) blk).2,[]⟩]):=by grind[xo]
def arJ{old new blk k p fr ms}(h:¬p<new.length):xo old new blk k p fr ms=nK new ms fr p:=by
 cases k with
 |zero=>rfl
 |succ k=>grind[xo]
def E5(old new:List Int)(blk:Nat):List bG:=xo old new blk new.length 0 0 []
def arw(d aJ)(c1 c2 blk:Nat)(old new)p5 w(hblk:1<=blk/\blk<=1048576)(hop:0<old.length)(hM:old.length<=1048576)(hL:new.length<=9)(hc2:old.length<=c2)(hc1:new.length<=c1)(lS:bR w d new)(hold:bR w aJ old)(HS:nE w d)(k0:nE w aJ)(Hy:jG new)(Hz:jG old)(X:w.cell? ⟨0,0,af⟩=ab (J R p5)):
 aD ax 44 #[ad aJ old.length c2,ad d new.length c1,J R (blk:Int)] w λe w'=>∃az aC t,e=aA (dC (old.length:Int) (new.length:Int) (iU old) (iU new) (ad az (E5 old new blk).length aC))/\b3 w w' t/\hD t az aC (E5 old new blk):=by
 have V:=hid lS;have du:=hid hold;have gw:=hid HS;have ry:=hid k0;have bV:=hid X;have Py:=hid Hy;have Pz:=hid Hz;have aiJ:aE (∀args w,(callFunc 188 _).run _ w=.ok (.enter 188 args) w):=hid (λargs w=>enters_of Tryz.func188 aw aa _ w);have WX:aE (∀args w,(callFunc 99 _).run _ w=.ok (.enter 99 _) w):=hid (λargs w=>enters_of Tryz.func99 aw aa args w);clear lS hold HS k0 X Hy Hz;go_enter func44,ntmps44;have a:=bf w;go_step;refine ag ?_;refine bM a (ad d _ c1) (λo w1 a=>?_);refine bx a (a1 0 0 dX.zero dX.zero _) (λM aR a=>?_);refine an ?_;go_step;refine ag ?_;refine v2 ?_;refine a6 (arB aJ _ c2 blk _) ?_;rintro e bL ⟨Oj,Ol,rfl,PW⟩;replace a:=a.new _ (((PW.fB 2)).fresh 0);refine ba ?_;refine ah ?_;refine an ?_;go_step;refine ag ?_;refine bx a #[ad _ 0 0] (λf ca a=>?_);refine an ?_;go_step;refine ag ?_;refine bx a #[J _ 0] (λr cF a=>?_);refine a' a 0 (J _ 0) (λc6 a=>?_);refine an ?_;go_step;refine ag ?_;refine v2 ?_;refine an ?_;go_step;refine ag ?_;refine ah ?_;refine an ?_;replace a:=a.new (bn af 0 0 73 5 []) ⟨ar.refl _ _,Row.nil _ _ _ _,λb ⟨_,_,e⟩=>aF⟩;replace a:=a.Le;have b9:aj w (λ_=>False) _ [ai r #[J R (((0:Nat):Int):Int)] 3,ai f #[ad af (([]:List (bG×Option bU×Nat)).map (·.1)).length 0] 24,bn af ((([]:List (bG×Option bU×Nat)).map (·.1)).length) 0 73 5 (cz ([]:List _)),gC _,ai o #[ad d new.length c1] 22,bO [ai Oj _ 3,ai Ol _ 22],ai M _ 26]:=a.pick [2,3,1,0,6,4,5];go_wp2_with fail;go_loopw [11] (λaV wr=>∃(p fr Q:Nat) (A:Option bU) (c:Nat) (l:List (bG×Option bU×Nat)),fr<=p/\p<=new.length/\new.length -p<=Q/\(l.map (·.1)).length<=2*p/\aV=J R (p:Int)/\aE (xo old new blk Q p fr (l.map (·.1))=E5 old new blk)/\aE (∀m∈l.map (·.1),m.data.length<=new.length)/\aj w (λ_=>False) wr [ai r #[J R (fr:Int)] 3,ai f #[ad A (l.map (·.1)).length c] 24,bn A ((l.map (·.1)).length) c 73 5 (cz l),gC l,ai o #[ad d new.length c1] 22,bO [ai Oj #[J R (blk:Int)] 3,ai Ol #[ad aJ old.length c2] 22],ai M (a1 0 0 dX.zero dX.zero (ad af 0 0)) 26]) (λaV wr=>new.length -(cw aV).toNat);case atStart=>exact⟨0,0,_,_,0,[],cm _,cQ _,ae,aT,aa,hid aa,hid (λ_ h=>(ga h).elim),b9⟩
 case round=>
  clear a b9;obtain⟨p,fr,Q,A,c,l,yD,yL,Ag,dZ,rfl,bY,U,a⟩:=hrel;obtain⟨ms,ef⟩:=ex (l.map (·.1));rw[ef]at dZ bY U a;obtain⟨n,hn⟩:=ex ms.length;rw[hn]at dZ a;have D:=hid ef;have O:=hid hn;clear ef hn;by_cases hlt:p<new.length
  .have cI:(p:Int)<(new.length:Int):=ae;obtain⟨Z,rfl⟩:∃Z,Q=Z+1:=⟨Q -1,ae⟩;have hstep:=arK (old:=old) (blk:=blk) (fr:=fr) (ms:=ms) hlt Ag;rw[bY]at hstep;obtain⟨tV,iG⟩:=ex ((new.drop p).length);have azF:p+tV=new.length:=aF;have PT:=hid (λW g eR eY=>arA Oj Ol blk (fE d c1 p 1) aJ (c1 -p) c2 old (new.drop p) p5 W hblk hop hM ae hc2 ae ((V.out.aH g).FI hc1) (du.out.aH g) (Py.out.drop p) Pz eR eY (G3 g bV));have Y:=λh=>arz (old:=old) (b:=new.drop p) (blk:=_) hblk.1 h;obtain⟨q,hq⟩:=ex ((nQ old (new.drop p) blk).1);obtain⟨z,hz⟩:=ex ((nQ old (new.drop p) blk).2);rw[hq,hz]at hstep PT;rw[hq,hz]at Y;rw[iG]at PT Y;clear hq hz iG;go_step;refine ag ?_;refine ah ?_;refine pl a 4 0 ?_;refine v2 ?_;refine an ?_;go_step;refine ag ?_;refine ah ?_;refine pl a 4 0 ?_;refine ah ?_;refine aI _ (AL 22 5 1 _ _ aa dI aw d _ c1 p tV aa aa ae ae) ?_;have abd:=a.at 5;refine a6 (PT.out _ a.only abd.1 abd.2.1.1) ?_ (hr:=by(first|(go_simp;done)|(go_simp;exact aiJ.out _ _)));rintro e dW ⟨rfl,g⟩;replace a:=a.aH g;refine ba ?_;refine v5 ?_;refine an ?_;by_cases T:q<0
   .rw[if_pos T]at hstep;have eJ:=hid hstep;clear hstep;go_step;refine ag ?_;refine ah ?_;refine aI (ak aB) (by(go_simp;try exact T)) ?_;refine an ?_;go_step;refine ag ?_;refine ah ?_;refine pad _ 1 ((p+1:Nat):Int) ?_;refine ah ?_;refine an ?_;go_wp2_with fail;go_roundw;case rel=>exact⟨p+1,fr,Z,A,c,l,ae,ae,ae,by rw[D,O];omega,aa,hid (by rw[D,<-eJ]),hid (by rw[D];exact U),by rw[D,O];exact a.pick [0,1,2,3,4,5,6]⟩
    case measure=>simp[cw]<;>omega
   .rw[if_neg T]at hstep;obtain⟨s,rfl,hz1,hz2⟩:=Y T;rw[show((s:Int)).toNat=s from aa]at hstep;have eJ:=hid hstep;clear hstep Y;go_step;refine ag ?_;refine ah ?_;refine aI (ak au) (by(go_simp;try exact T)) ?_;refine an ?_;go_step;refine ag ?_;refine v2 ?_;have S:=aj.tail [ai r _ 3,ai f _ 24,bn A n c 73 5 (cz l),gC l,ai o _ 22] [bO _,ai M _ 26] (a.pick [0,1,2,3,4,5,6]);refine a6 (Zx r f o fr p n c c1 A d new l w _ (λ_=>False) _ ae ae hc1 ae ae (by rw[D,O]) (λW g=>V.out.aH g) S) ?_ (hr:=by(first|(go_simp;done)|(go_simp;exact WX.out _ _)));rintro e dG ⟨rfl,L,P,j,y,B,a⟩;clear S;rw[D]at y B a;obtain⟨m4,I⟩:=ex (nK new ms fr p);have H:=Zu new ms fr p;have G:=Zt (fr:=fr) (p:=p) U;have PS:=hid I;rw[I]at y B a H G;rw[O]at H;obtain⟨E,K⟩:=ex m4.length;rw[K]at B a H;have F:=hid K;have N:=hid y;have PD:=hid G;clear I K y B G;replace a:aj _ _ _ [ai r _ 3,ai f _ 24,bn L E P 73 5 (cz j),gC j,ai o _ 22,bO _,ai M _ 26]:=aj.iu [ai r _ 3,ai f _ 24,bn L E P 73 5 (cz j),gC j,ai o _ 22] _ a;refine ba ?_;refine an ?_;go_step;refine ct ?_;refine bN a [4,5,6,7] (λi u=>match i with|4=>av #[J R 1,J R (p:Int),J R q,J R (s:Int),ad af 0 0]|5=>ad (ab ⟨u.b,0,af⟩) 1 1|6=>ad u.A (E+1) u.c|_=>aY) (λC=>λ|5=>ai ((C 5).b) #[J R 1,J R (p:Int),J R q,J R (s:Int),ad af 0 0] 73|6=>bn ((C 6).A) (E+1) ((C 6).c) 73 5 ((cz j)++(jk ⟨1,(p:Int),q,(s:Int),[]⟩ af 0))|7=>ai f #[ad (C 6).A (E+1) (C 6).c] 24|_=>emp) (λ|6=>[2]|7=>[1]|_=>[]) (λ|0=>[1]|6=>[12]|_=>[]) (λ|5=>[5]|6=>[6]|7=>[6]|_=>[]) [0,3,4,5,6,11,12,13,14] (λC=>?_);refine dl 0 0 ?_;refine c7 ?_;refine df (λwl Fr a=>(YI (p:Int) q _ _).mono ?_) ?_;·rintro e dm ⟨rfl,g⟩;exact⟨{},aa,(a.aH g).dS⟩
    refine lM _ 73 ?_;refine tQ (m:=1) 56 (λ_ _ a=>aW.cellsOf (m:=1) (a.aZ 1) aa) (D2 ⟨1,_,q,_,[]⟩ _ 0) ?_ (hby:=by omega);refine fY _ ?_;refine bQ λe8 a=>?_;generalize (C 5).b=axx at a⊢;generalize (C 6).A=aw4 at a⊢;generalize (C 6).c=ayk at a⊢;replace a:=a.drop 5;replace a:=a.pk [1,0,2,3,4,5,6,7];replace a:=aj.amR (m:=⟨1,(p:Int),q,(s:Int),[]⟩) aa a;go_step;refine ag ?_;refine v2 ?_;refine pad _ _ ((p+s:Nat):Int) ?_;refine ah ?_;refine an ?_;go_step;refine ag ?_;refine ah ?_;refine a' a 1 (J _ ((p+s:Nat):Int)) (λhR a=>?_);refine an ?_;go_wp2_with fail;go_roundw;case rel=>exact⟨p+s,p+s,Z,_,_,j++[(⟨1,_,q,_,[]⟩,af,0)],ae,ae,ae,by rw[gx,N,dv,F];simp;omega,aa,hid (by rw[gx,N,eJ,PS];rfl),hid (by rw[gx,N];exact amA PD (cQ _)),by rw[gx,N.out,dv,F.out,BL,D9];exact a.pick [1,7,6,0,2,3,4]⟩
    case measure=>grind[cw]
  .have cI:¬(p:Int)<(new.length:Int):=ae;have hend:=arJ (old:=old) (blk:=blk) (k:=Q) (fr:=fr) (ms:=ms) hlt;rw[bY]at hend;have aiK:=hid hend;clear hend;go_step;refine ag ?_;refine ah ?_;refine pl a 4 0 ?_;refine v2 ?_;refine an ?_;go_step;refine ag ?_;refine v2 ?_;have S:=aj.tail [ai r #[J R (fr:Int)] 3,ai f #[ad A n c] 24,bn A n c 73 5 (cz l),gC l,ai o #[ad d new.length c1] 22] [bO _,ai M (a1 0 0 dX.zero dX.zero (ad af 0 0)) 26] (a.pick [0,1,2,3,4,5,6]);refine a6 (Zx r f o fr p n c c1 A d new l w _ (λ_=>False) _ ae ae hc1 ae ae (by rw[D,O]) (λW g=>V.out.aH g) S) ?_ (hr:=by(first|(go_simp;done)|(go_simp;exact WX.out _ _)));rintro e iZ ⟨rfl,L,P,j,y,B,a⟩;clear S;rw[D]at y B a;obtain⟨m4,I⟩:=ex (nK new ms fr p);have H:=Zu new ms fr p;have G:=Zt (fr:=fr) (p:=p) U;have PS:=hid I;rw[I]at y B a H G;rw[O]at H;obtain⟨E,K⟩:=ex m4.length;rw[K]at B a H;have F:=hid K;have N:=hid y;have PD:=hid G;clear I K y B G;replace a:aj _ _ _ [ai r _ 3,ai f _ 24,bn L E P 73 5 (cz j),gC j,ai o _ 22,bO _,ai M _ 26]:=aj.iu [ai r _ 3,ai f _ 24,bn L E P 73 5 (cz j),gC j,ai o _ 22] _ a;refine ba ?_;refine an ?_;have mG:m4=E5 old new blk:=by rw[<-PS,aiK]
   subst mG;go_step;refine ag ?_;refine ah ?_;refine pl a 4 0 ?_;refine pl a 1 0 ?_;refine a6 ((by have h:=Y1 c2 c1 aJ d L P old new (E5 old new blk) _ hM ae (du.out.aH a.only) (ry.out.aH a.only) (V.out.aH a.only) (gw.out.aH a.only) (aeP (a.atR 2) N.out F.out.symm (λx hx=>(a.at 3 aa x hx).cmd)) (by rw[F];omega) (λm X=>Nat.le_trans (PD.out m X) ae);rw[F.out]at h;exact h)) ?_;rintro e ks ⟨hA,gH,bE,rfl,hF,j4⟩;replace a:=a.new _ hF;refine ba ?_;refine a' a 7 (av _) (λlf a=>?_) (hk:=by show 0+jD (a1 _ _ _ _ _)<=_;simp only[cN];decide) (hz:=by show _=ab (jD (a1 _ _ _ _ _));rw[cN];rfl) (h1:=(vt aa)) (hc:=vQ);refine an ?_;go_wp2_with fail;refine dn (v:=_) (jd aa _ _ _ _ _ _ _ aa (a.aZ 7) Tryz.underlying26 aa (by rw[cN];rfl)) aa (⟨hA,gH,by rw[F],bE,a.fresh 0,j4⟩)
def ux:List Int:=[97,98,99,100,101,102]
def k8:List Int:=[100,101,102,120,97,98,99]
def oH:List bG:=[⟨1,0,3,3,[]⟩,⟨2,3,0,0,[120]⟩,⟨1,4,0,3,[]⟩]
def BA:List bG:=[⟨1,4,0,3,[]⟩,⟨2,0,0,0,[100,101,102]⟩,⟨2,3,0,0,[120]⟩]
def Nb:List bG:=[⟨2,0,0,0,[100,101,102]⟩,⟨2,3,0,0,[120]⟩]
def zO:List jQ:=[((0,3),0),((3,1),1),((4,3),2)]
def si:List (Int×Int):=[(0,1),(0,2),(2,0)]
def arv:E5 ux k8 3=oH:=aw
theorem U7:sH oH zO=si:=aw
theorem acE:jX oH 3=[1]:=aw
def adN:vV ux oH=k8:=aw
def aeW{a:Type}{pre L}{x:a}(h:pre++[x]<+:L):L[pre.length]?=ab x/\L.take pre.length=pre:=by obtain⟨t,rfl⟩:=h;simp
def avC(L:List (Nat×Int×Int)):Bool:=(dF L.length).all λj=>match L[j]? with
 |some x=>decide (x.2.1=im (L.take j))&&decide (0<=im (L.take j))&&decide (0<=x.2.2)&&decide (im (L.take j)+x.2.2<=4611686018427387903)
 |none=>au
def afk{n:Nat}{ms}(h:avC (hQ ms)=aB)(a:im (hQ ms)=(n:Int)):KG n ms:=⟨λpre x c=>by obtain⟨b,d⟩:=aeW c;have e:=DK.1 h _ (nc.2 (eQ.1 b).1);grind,a⟩
def avX:nF 6 7 oH:=⟨bh,bh,λm a=>by simp only[oH,gy,ga,or_false]at a;rcases a with rfl|rfl|rfl<;>simp[jb,hX,wS,eD,cS],afk aw aw,bh⟩
def avW:nF 6 7 BA:=⟨bh,bh,λm a=>by simp only[BA,gy,ga,or_false]at a;rcases a with rfl|rfl|rfl<;>simp[jb,hX,wS,eD,cS],afk aw aw,bh⟩
def ZG:jS zO:=⟨by simp[zO],λx hx=>by grind[zO,eD]⟩
theorem TK{E v x}(h:G.Path E v x):∃y,(v,y)∈E:=by
 induction h with
 |one h=>grind
 |more _ _ a=>omega
def amn:G.kA si [] [0,2]:=⟨aT,λx=>by
 rw[G.Ha];constructor
 .intro h;simp at h;rcases h with rfl|rfl;·exact .more (.one (x:=2) (by simp[si])) (by simp[si])
  .exact .more (.one (x:=0) (by simp[si])) (by simp[si])
 grind[TK,si]⟩
def amo:G.kA si [0] []:=⟨GI,λx=>by grind[G.cut,si,TK]⟩
theorem alw:G.wL si [3,0,3] [1] [0] []:=⟨.snoc (v:=0) .nil amn aw,amo,aa⟩
theorem asu:G.mx si 3 [1,0] [2]:=by
 have rd:∀v out,G.vn si 3 [1,0] out v->v=2:=λv out h=>by obtain⟨h1,a,_⟩:=h;simp at a;omega
 refine⟨.snoc (out:=[]) (v:=2) .nil ⟨⟨bh,aT,aT,λu b=>?_⟩,λu b=>aF⟩,λv hv=>?_⟩;·grind[si]
 .have h1:=rd v _ hv;subst h1;exact hv.2.2.1 aT
def alQ:FT oH:=⟨bh,at4 (l:=oH.map b8) (S:=zO) aS ZG,λm a hk=>by grind[oH,eD]⟩
def alU:Conv oH zO [0] [2]:=⟨alQ,aS,ZG,by grind[oH,acE,U7,alw],by grind[oH,acE,U7,asu],aw,bh⟩
def amj:AY ux oH zO [0] [2] Nb:=⟨alU,λx hx=>⟨2,aF,bh⟩,bh,λm a hk=>by
 simp only[oH,gy,ga,or_false]at a;rcases a with rfl|rfl|rfl;·exact⟨3,3,aa,aa,bh⟩
 .grind
 .exact⟨0,3,aa,aa,bh⟩,⟨aS,by simp[Nb]⟩⟩
def GV:fD oH [2]++Nb=BA:=aw
def C8:wb:=⟨2,6,7,iU ux,iU k8,BA⟩
def BO:dL:=qP 64 (k6 64 2 7+0) ux
def amy:dR BO:=acV bh bh bh bh
def ae6:ew 2 BA=[⟨1,4,0,2,[]⟩,⟨1,6,2,1,[]⟩,⟨2,0,0,0,[100,101]⟩,⟨2,2,0,0,[102]⟩,⟨2,3,0,0,[120]⟩]:=aw
def alM:sh C8 BO:=⟨amy,bh,bh,avW,bh,by show(ew 2 BA).length<=_;rw[ae6];decide,λbD b=>by
 have a:bD∈ew 2 BA:=b;rw[ae6]at a;simp at a;rcases a with rfl|rfl|rfl|rfl|rfl;·exact⟨4,aa,bh⟩
 .exact⟨6,aa,bh⟩
 .exact⟨0,aa,bh⟩
 .exact⟨2,aa,bh⟩
 .exact⟨3,aa,bh⟩⟩
def ad8:Bool:=match gz C8 ([(4,1)]++[(-1,0)]) BO with
 |(l,d)=>decide (l.length=2)&&tW l&&decide (d.bytes.take 7=k8)&&decide (1<=d.size)&&decide (1<=d.cnt)&&decide (d.bytes.length=d.cnt*d.size)&&decide (d.cnt*d.size<=1048576)&&d.cache.isEmpty&&decide (d.writes=-1)
def atQ:ad8=true:=aw
section
section
variable {lt:Nat->Nat->Bool} {key:Nat->Int}
def swap_perm{L:List Nat}{j}(a:j+1<L.length):((L.set (j+1) (L[j]?.getD 0)).set j (L[j+1]?.getD 0)).Perm L:=aF
def aeN:∀(j) L,j<L.length->(sink lt j L).Perm L
 |0,_,_=>Bp _
 |j+1,L,a=>by
  unfold sink;split;·exact(aeN j _ (by simp;omega)).trans (swap_perm a)
  .exact Bp _
def ab7 L:∀i,i<=L.length->(k3 lt L i).Perm L
 |0,_=>Bp _
 |i+1,h=>(aeN i _ (by grind[EU])).trans (ab7 L i ae)
def ko(key:Nat->Int)(L:List Nat)(a:Nat):Int:=key (L[a]?.getD 0)
def aeO(hlt:∀x y,lt x y=decide (key x<key y)):∀(j) L,j<L.length->(∀a b,a<b->b<j->ko key L a<=ko key L b)->
 (∀a b,a<b->b<j+1->ko key (sink lt j L) a<=ko key (sink lt j L) b)/\(∀b,j<b->(sink lt j L)[b]?=L[b]?)/\∀f,(∀a,a<=j->ko key L a<=f)->∀a,a<=j->ko key (sink lt j L) a<=f
 |0,L,_,_=>⟨λa b h1 v=>ae,λb _=>rfl,λf h=>h⟩
 |j+1,L,s,i=>by
  unfold sink;rw[hlt];by_cases h:key (L[j+1]?.getD 0)<key (L[j]?.getD 0)
  .rw[if_pos (decide_eq_true h)];obtain⟨c,g⟩:∃z,(L.set (j+1) (L[j]?.getD 0)).set j (L[j+1]?.getD 0)=z:=⟨_,aa⟩
   have bB:∀a,a<j->c[a]?=L[a]?:=λa e=>by rw[<-g,Ku ae,Ku ae]
   have b7:c[j]?=ab (L[j+1]?.getD 0):=by rw[<-g,ajW (by simp;omega)]
   have q:c[j+1]?=ab (L[j]?.getD 0):=by rw[<-g,Ku ae,ajW s]
   have r:∀a,j+1<a->c[a]?=L[a]?:=λa e=>by rw[<-g,Ku ae,Ku ae]
   have k:∀a,a<j->ko key c a=ko _ L a:=λa e=>by unfold ko;rw[bB a e]
   have m:ko key c j=ko key L (j+1):=by unfold ko;rw[b7];rfl
   have t:ko key c (j+1)=ko key L j:=by unfold ko;rw[q];rfl
   have hlen:c.length=L.length:=by rw[<-g];simp
   rw[g];obtain⟨u,o,p⟩:=aeO hlt j c ae (λa b hab hb=>by rw[k a ae,k b ae];exact i a b hab ae);have n:ko key (sink lt j c) (j+1)=ko key L j:=by rw[<-t];unfold ko;rw[o (j+1) ae]
   have hx:ko _ L _<ko _ L j:=h
   have hb:∀a,a<=j->ko _ c a<=ko key L j:=λa e=>by
    by_cases d:a=j;·rw[d,m];omega
    .rw[k a ae];exact i a j ae ae
   refine⟨λa b hab hb2=>?_,λb hb2=>by rw[o b ae,r b ae],λf l a e=>?_⟩
   .by_cases d:b=j+1;·rw[d,n];exact p _ hb a ae
    .exact u a b hab ae
   .by_cases d:a=j+1;·rw[d,n];exact l j ae
    .refine p f (λa e=>?_) a ae;by_cases d:a=j;·rw[d,m];exact l _ ae
     .rw[k a ae];exact l a ae
  .rw[if_neg (by simpa using h)];refine⟨λa b hab hb=>?_,λb _=>rfl,λf h=>h⟩;have hx:ko _ L j<=ko _ L _:=Int.not_lt.1 h;by_cases d:b=j+1
   .subst d;by_cases e:a=j;·rw[e];exact hx
    .exact Int.le_trans (i a j ae ae) hx
   .exact i a b hab ae
def ab8(hlt:∀x y,lt x y=decide (key x<key y))L:∀i,i<=L.length->∀a b,a<b->b<i->ko key (k3 lt L i) a<=ko key (k3 lt L i) b
 |0,_=>λa b _ h=>by omega
 |i+1,h=>(aeO hlt i _ (by grind[EU]) (ab8 hlt L i ae)).1
end
def adn ms:(lX ms).Perm (dF ms.length):=ab7 _ _ aT
theorem ado ms:(lX ms).Pairwise (λi j=>mR ms i<=mR ms j):=by rw[l3];intro i j hi b a;have c:=MQ ms;have h:=ab8 (lt:=λx y=>decide (pM (mR ms x) (mR ms y)<0)) (key:=mR ms) (λx y=>by grind[pM]) (dF ms.length) ms.length aT i j a ae;grind[ko,lX]
end
structure Lays (n:Nat) (T:List (Int×Int)):Prop where
 pos:∀x∈T,0<=x.1/\0<x.2/\x.1+x.2<=(n:Int)
 apart:T.Pairwise (λx y=>x.1+x.2<=y.1\/y.1+y.2<=x.1)
 zero:0<n->∃z∈T,z.1<=0/\0<z.1+z.2
 next:∀x∈T,x.1+x.2<(n:Int)->∃z∈T,z.1<=x.1+x.2/\x.1+x.2<z.1+z.2
def Lays.perm{n T a}(h:Lays n T)(p:T.Perm a):Lays n a:=
 ⟨λx hx=>h.pos x (p.mem_iff.2 hx),(p.pairwise_iff (λh=>h.symm)).1 h.apart,λc=>by
   obtain⟨z,hz,h1⟩:=h.zero c;exact⟨z,p.mem_iff.1 hz,h1⟩,λx hx b=>by
   obtain⟨z,hz,h1⟩:=h.next x (p.mem_iff.2 hx) b;exact⟨z,p.mem_iff.1 hz,h1⟩⟩
def BQ{L:List (Nat×Int×Int)}{k x}(h:L[k]?=ab x):im (L.take (k+1))=im (L.take k)+x.2.2:=by grind[fu,Y8]
def FB ms:((hQ ms).map (λx=>(x.2.1,x.2.2))).Perm (ms.map b8):=by unfold hQ;rw[GM];refine((adn ms).map _).trans (ajS ?_);refine wM λi=>?_;grind[mR,Mv,b8]
def CQ ms:(hQ ms).Pairwise (λx y=>x.2.1<=y.2.1):=by grind[hQ,ado]
def E0{n}{L:List (Nat×Int×Int)}(h:Lays n (L.map (λx=>(x.2.1,x.2.2))))(o:L.Pairwise (λx y=>x.2.1<=y.2.1)):∀k,k<=L.length->
 (∀j x,j<k->L[j]?=ab x->x.2.1=im (L.take j)/\x.2.1+x.2.2<=im (L.take k))/\0<=im (L.take k)/\im (L.take k)<=(n:Int)
 |0,_=>⟨λj x b=>ae,by simp[im],by simp[im]⟩
 |k+1,hk=>by
  obtain⟨h1,v,w⟩:=E0 h o k ae;obtain⟨x,hx⟩:∃x,L[k]?=ab x:=⟨_,cj ae⟩;have l:∀(j:Nat) y,L[j]?=ab y->(y.2.1,y.2.2)∈L.map (λx=>(x.2.1,x.2.2)):=λj y c=>gV.2 ⟨y,cL c,aa⟩
  have u:∀(i j:Nat) (y z),i<j->L[i]?=ab y->L[j]?=ab z->y.2.1<=z.2.1/\(y.2.1+y.2.2<=z.2.1\/z.2.1+z.2.2<=y.2.1):=λi j y z m c hz=>by obtain⟨hi,rfl⟩:=eQ.1 c;obtain⟨b,rfl⟩:=eQ.1 hz;exact⟨l3.1 o i j hi b m,l3.1 (ya.1 h.apart) i j hi b m⟩
  have t:=h.pos _ (l k x hx);simp only at t
  have r:im (L.take k)<(n:Int)->∃z∈L,z.2.1<=im (L.take k)/\im (L.take k)<z.2.1+z.2.2:=λhlt=>by
   cases k with
   |zero=>
    have q:im (L.take 0)=0:=aS;rw[q]at hlt⊢;obtain⟨z,hz,d⟩:=h.zero ae;grind
   |succ k=>
    obtain⟨p,a⟩:∃p,L[k]?=ab p:=⟨_,cj ae⟩;have d:=(h1 k p ae a).1;have e:=BQ a;have f:=h.next _ (l k p a);simp only at f;rw[e,<-d]at hlt⊢;obtain⟨z,hz,g⟩:=f hlt;obtain⟨y,c,rfl⟩:=gV.1 hz;exact⟨y,c,g⟩
  have s:im (L.take k)<=x.2.1:=by
   cases k with
   |zero=>grind[im]
   |succ k=>
    obtain⟨p,a⟩:∃p,L[k]?=ab p:=⟨_,cj ae⟩;have d:=(h1 k p ae a).1;have e:=BQ a;have f:=u k _ p x ae a hx;have g:=h.pos _ (l k p a);simp only at g;omega
  have B:x.2.1=im (L.take k):=by
   rcases ajM s with hlt|A;·exfalso;obtain⟨z,hz,d,e⟩:=r ae;obtain⟨j,b⟩:=oU.1 hz;grind
   .omega
  have hes:=BQ hx;refine⟨λj y b c=>?_,ae,ae⟩;rcases wP.1 b with hlt|rfl;·grind
  .grind
def Te{n L}(h:Lays n (L.map (λx=>(x.2.1,x.2.2))))(g:L.Pairwise (λx y=>x.2.1<=y.2.1)):im L=(n:Int):=by
 obtain⟨h1,d,b⟩:=E0 h g L.length (cm _);rw[ik]at h1 d b;rcases ajM b with hlt|k
 .exfalso;have hend:∀z∈L,z.2.1+z.2.2<=im L:=λz hz=>by grind[oU]
  by_cases c:L.length=0;·obtain rfl:=Qv.1 c;obtain⟨z,hz,_⟩:=h.zero ae;simp at hz
  .obtain⟨p,a⟩:∃p,L[L.length -1]?=ab p:=⟨_,cj ae⟩;have j:=(h1 _ p ae a).1;have e:=BQ a;rw[show L.length -1+1=L.length by omega,ik]at e;obtain⟨z,hz,f⟩:=h.next (p.2.1,p.2.2) (gV.2 ⟨p,cL a,aa⟩) ae;obtain⟨y,i,rfl⟩:=gV.1 hz;have:=hend y i;simp only at f;omega
 .omega
def afj{n ms}(h:Lays n (ms.map b8))(l:(n:Int)<=4611686018427387903):KG n ms:=by have a:=h.perm (FB ms).symm;refine⟨λpre x i=>?_,Te a (CQ ms)⟩;obtain⟨h1,d⟩:=aeW i;have hk:=(eQ.1 h1).1;obtain⟨e,j,k⟩:=E0 a (CQ ms) (pre.length+1) hk;obtain⟨_,c,_⟩:=E0 a (CQ ms) pre.length ae;have b:=(e _ x ae h1).1;have f:=BQ h1;have g:=a.pos _ (gV.2 ⟨x,cL h1,aa⟩);simp only at g;rw[d]at b c f;exact⟨b,c,ae,ae⟩
theorem afa{P i}{a:Act}{w x f e d A n c bs}(l:List UInt8)(u:bs.take n=l.map (λb=>(b.toNat:Int)))(r:n=l.length)(v:0<l.length)(s:i.op=.convert f d x)(hx:a.eval x=ad A n c)(hb:bR w A bs)(t:P.underlying f=ab (.slice e))(p:P.underlying e=ab (.int d'))(m:P.underlying d=ab .string):
 (bt a.eval i).run P w=.ok (.value (Pf ⟨l.toArray⟩)) w:=by
 subst r;have hlen:l.length<=bs.length:=by grind[gU]
 obtain⟨b,o,rfl,hc⟩:=hb ae
 have h:=ait (P:=P) w f d e _ c l t p m (λj q=>by rw[nG];have k:=hc j ae;rw[k];have g:(bs.take l.length)[j]?=ab ((l[j].toNat:Int)):=aF;rw[tE,if_pos q]at g;rw[g];rfl);unfold bt;simp[s,hx,h]
def auB G w(E:w.cell? ⟨0,0,af⟩=ab (J R G)):
 aD ax 9 #[] w λe w'=>e=aA (ak aB)/\aq w w':=by
 have T:=hid E
 have S:aE (∀W f aJ,aq w W->bR W f k8->bR W aJ ux->nE W f->nE W aJ->aD _ 44 #[ad aJ 6 6,ad f 7 7,J R 3] W λe w'=>∃B C t,e=aA (dC 6 7 _ _ (ad B 3 C))/\b3 W w' t/\hD t B C oH):=hid (λW f aJ g h1 p r s=>by have q:=arw f aJ 7 6 3 _ _ G W ⟨bh,bh⟩ bh bh bh bh bh h1 p r s (by unfold jG;decide) (by unfold jG;decide) (g.cell T (λh=>h));rw[arv]at q;exact q);obtain⟨X,l,hat⟩:∃a b,gz C8 ([(4,1)]++[(-1,0)]) BO=(a,b):=⟨_,_,aa⟩;have hres:=atQ;unfold ad8 at hres;rw[hat]at hres;simp at hres;obtain⟨⟨⟨⟨⟨⟨⟨⟨H,I⟩,y⟩,K⟩,L⟩,M⟩,N⟩,z⟩,O⟩:=hres;have F:dR l:=⟨K,L,M,N,λx hx=>by rw[z]at hx;exact absurd hx ga,by rw[z];exact cQ _,by rw[O];unfold db;decide⟩;have D:7<=l.bytes.length:=by have h:=congrArg List.length y;rw[oT]at h;have Ln:k8.length=7:=rfl;omega
 have U:aE (∀W i A j c,bR W i ux->nE W i->cC W A oH->Cells W 2 j 1 [J R 4,J .u64 1]->nE W j->aD ax 43 #[ad i 6 6,dC 6 7 (iU ux) (iU k8) (ad A 3 c),J R 64,J R 2,ad j 1 1] W λe w'=>∃f c1 aJ c2 pk,e=aA _/\b3 W w' (cc f c1 l.bytes)):=hid (λW i A j c h1 p r s Z=>by have q:=atU i A j 6 c 1 7 64 2 _ (iU k8) ux oH zO [0] [2] Nb [(4,1)] W bh bh h1 p r avX bh aa (by rw[adN];rfl) (by rw[adN];decide) amj ⟨bh,bh⟩ bh (by rw[GV];exact alM) (by rw[GV];show dR (gz C8 ([(4,1)]++[(-1,0)]) BO).2;rw[hat];exact F) (by rw[GV];show tW (gz C8 ([(4,1)]++[(-1,0)]) BO).1=aB;rw[hat];exact I) (by rw[GV];show 7<=(gz C8 ([(4,1)]++[(-1,0)]) BO).2.bytes.length;rw[hat];exact D) s Z ⟨bh,bh⟩ (λk hk=>by(have e:k=(4,1):=(by simpa using hk));(rw[e]);(unfold db);decide);rw[GV]at q;refine q.mono λe w' hq=>?_;obtain⟨f,c1,aJ,c2,pk,_,n,v⟩:=hq;have Y:gz (⟨2,ux.length,7,_,_,_⟩:wb) _ (qP 64 (k6 64 2 (max ux.length 7)+0) _)=(X,l):=hat;rw[Y]at n v;simp only at n v;rw[H]at n;exact⟨f,c1,aJ,c2,pk,n,v⟩);have Q:=hid y;clear E hat H I y K L M N z O F D;go_enter func9,ntmps9;have d:=bf w;go_step;refine ag ?_;refine ah ?_;refine an ?_;go_step;refine ag ?_;refine f' d #[J d' 97,J d' 98,J d' 99,J d' 100,J d' 101,J d' 102] 5 (λuJ w1 d=>?_);refine CG d 0 (Fg ux aa aa (d.aZ 0) aa dI lj) (λaR d=>?_);refine ah ?_;refine an ?_;go_step;refine ag ?_;iterate 2 refine ah ?_
 refine f' d #[J d' 100,J d' 101,J d' 102,J d' 120,J d' 97,J d' 98,J d' 99] 5 (λaxi bL d=>?_);refine CG d 0 (Fg k8 aa aa (d.aZ 0) aa dI lj) (λca d=>?_);refine a6 (S _ _ _ d.only (d.at 0) (d.at 1) (λb hb=>((d.has 0).2 b hb)) (λb hb=>((d.has 1).2 b hb))) ?_;rintro e cF ⟨P,fF,bE,rfl,u,V⟩;replace d:=d.new _ u;refine ba ?_;refine aI (av #[J R 4,J .u64 1]) (by(show _=_;kernel_rfl)) ?_;refine f' d #[J R 4,J .u64 1] 105 (λaxk c6 d=>?_);refine a6 (U _ _ P _ fF (d.at 3) (λb hb=>((d.has 3).2 b hb)) (V.s8 (d.at 1)) (aW.cellsOf (m:=1) (d.aZ 0) aa) (λb hb=>by obtain⟨o,sp,e⟩:=hb;cases e;exact(d.has 0).2 _ aa)) ?_;rintro e dW ⟨f,c1,aJ,c2,pk,rfl,u⟩;replace d:=d.new _ u;refine ba ?_;iterate 4 refine ah ?_
 refine bx d #[ad _ 0 0,ak _,J _ 0] (λb6 dG d=>?_);refine bx d #[J _ 0,J _ 0] (λed e8 d=>?_);refine ah ?_;refine a' d 1 (av _) (λhR d=>?_);refine a' d 0 (av _) (λiZ d=>?_);refine an ?_;go_step;refine ag ?_;refine bq d 0 #[J R 0,J R 0] ?_;refine aI (av #[J R 0,J R 0]) (by(show _=_;kernel_rfl)) ?_;refine aI (ak aB) (by(show _=_;kernel_rfl)) ?_;iterate 2 refine ah ?_
 refine aI _ (afa (bs:=l.bytes) ([100,101,102,120,97,98,99]:List UInt8) (Q.out.trans aa) aa bh aa aa (d.lr 2).1 dI lj zl) ?_;refine aI (ak aB) (by(show _=_;kernel_rfl)) ?_;iterate 3 refine ah ?_
 refine pl d 1 0 ?_;refine ah ?_;refine aI (ak aB) (by(show _=_;kernel_rfl)) ?_;iterate 2 refine ah ?_
 refine an ?_;go_wp2_with fail;go_ret;exact⟨aa,d.only⟩
section
attribute [local irreducible] wpList c9
def M9 m A c w:
 aD ax 155 #[mz m A c] w λe w'=>e=aA (J R (cS m))/\aq w w':=by
 unfold cS;by_cases hk:m.k=1;·have b:=hid hk;rw[if_pos hk];clear hk;go_enter Tryz.func155,Tryz.ntmps155;have a:=bf w;go_step;refine ag ?_;refine bM (cs:=#[J _ _,J _ _,J _ _,J _ _,ad A _ c]) a _ (λd w1 a=>?_);refine cJ ?_;refine pl a 0 0 ?_;refine dr b (ak aB) ?_;refine b4 ?_;refine pl a 0 3 ?_;refine bP ?_;go_wp2_with fail;go_ret;exact⟨aa,a.only⟩
 .have b:=hid hk;rw[if_neg hk];clear hk;go_enter Tryz.func155,Tryz.ntmps155;have a:=bf w;go_step;refine ag ?_;refine bM (cs:=#[J _ _,J _ _,J _ _,J _ _,ad A _ c]) a _ (λd f a=>?_);refine cJ ?_;refine pl a 0 0 ?_;refine dr b (ak au) ?_;refine b4 ?_;refine pl a 0 4 ?_;refine dP ?_;go_wp2_with fail;go_ret;exact⟨aa,a.only⟩
def Fw m A c w:
 aD ax 171 #[mz m A c] w λe w'=>e=aA (av #[J R m.to,J R (cS m)])/\aq w w':=by
 obtain⟨z,hz⟩:=ex (cS m);have d:aE (∀W,aD _ _ #[av _] W λe w'=>e=aA (J _ z)/\aq W w'):=hid (λW=>by rw[<-hz];exact M9 m A c W);rw[hz];clear hz;go_enter func171,ntmps171;have a:=bf w;go_step;refine ag ?_;refine bM (cs:=#[J _ _,J _ _,J _ _,J _ _,ad A _ c]) a _ (λg w1 a=>?_);refine bx a #[J _ 0,J _ 0] (λb j a=>?_);refine ct ?_;refine bN a [3,5] (λi _=>match i with|3=>J R z|_=>aY) (λ_=>λ|5=>ai b #[J R m.to,J R z] 35|_=>emp) (λ|5=>[0]|_=>[]) (λ|1=>[1]|2=>[1]|_=>[]) (λ_=>[]) [1,5,7] (λh=>?_);refine aK ?_;refine dl 0 1 ?_;refine ea 0 #[J R m.k,J R m.to,J R m.fr,J R m.n,ad A m.data.length c] ?_;refine dD (λf _ _=>d f) ?_;refine aK ?_;refine fY _ ?_;refine bQ λl a=>?_;replace a:=a.drop 1;go_wp2_with fail;refine dn (v:=_) (jd aa _ _ _ _ _ _ _ aa (a.aZ 1) A7 aa aw) aa (⟨aa,a.only⟩)
def aem m A c w:
 aD ax 170 #[mz m A c] w λe w'=>e=aA (av #[J R m.fr,J R m.n])/\aq w w':=by
 go_enter func170,ntmps170;have a:=bf w;go_step;refine ag ?_;refine bM (cs:=#[J _ _,J _ _,J _ _,J _ _,ad A _ c]) a _ (λb w1 a=>?_);refine bx a #[J _ 0,J _ 0] (λd f a=>?_);refine b4 ?_;refine pl a 1 2 ?_;refine ah ?_;refine pl a 1 3 ?_;refine ah ?_;refine a' a 0 (av _) (λg a=>?_);refine an ?_;go_wp2_with fail;refine dn (v:=_) (jd aa _ _ _ _ _ _ _ aa (a.aZ 0) A7 aa aw) aa (⟨aa,a.only⟩)
def BI(m:bG):Int:=if m.k≠1/\m.k≠2 then 11 else if cS m=0 then 7 else if nW (b8 m)=au then 2 else if m.k=1/\(0<m.data.length\/nW (src m)=au)then 2 else if m.k=2/\(m.fr≠0\/m.n≠0)then 2 else 0
structure r1 (m:bG):Prop where
 k:db m.k
 FD:db m.to
 fr:db m.fr
 n:db m.n
 d:m.data.length<=9223372036854775807
def r1.len{m}(h:r1 m):db (cS m):=by
 unfold cS;split;·exact h.n
 .have:=h.d;unfold db;omega
theorem YD{m}(h:BI m=0):hX m:=by
 unfold BI at h;by_cases h1:m.k≠1/\m.k≠2;·omega
 .rw[if_neg h1]at h;by_cases a:cS m=0;·omega
  .rw[if_neg a]at h;cases h3:nW (b8 m)with
   |false=>grind
   |true=>
    rw[h3,if_neg bh]at h;have c:=FF.1 h3;by_cases b:m.k=1/\(0<m.data.length\/nW (src m)=au);·grind
    .rw[if_neg b]at h;by_cases d:m.k=2/\(m.fr≠0\/m.n≠0);·omega
     .unfold hX wS;by_cases hk:m.k=1;·grind[cS,nW,src,b8,FF]
      grind[cS,b8]
set_option maxHeartbeats 4000000 in
def aty m A c w(x:r1 m):
 aD ax 186 #[mz m A c] w λe w'=>e=aA (J R (BI m))/\aq w w':=by
 obtain⟨z,hz⟩:=ex (cS m);have f:aE (∀W,aD _ _ #[av _] W λe w'=>e=aA (J _ z)/\aq W w'):=hid (λW=>by rw[<-hz];exact M9 m A c W);have j:aE (∀W,aD _ _ #[av _] W λe w'=>e=aA (av #[J _ _,J _ z])/\aq W w'):=hid (λW=>by rw[<-hz];exact Fw m A c W);have D:aE (∀W,aD _ _ #[av _] W λe w'=>e=aA _/\aq W w'):=hid (λW=>aem m A c W);obtain⟨eR,hb1⟩:=ex (nW (b8 m));obtain⟨eY,hb2⟩:=ex (nW (src m));have l:=hid (λW=>by have q:=aev _ z W x.FD (hz▸x.len);rw[show nW (m.to,z)=eR from by rw[<-hb1,b8,hz]]at q;exact q);have E:=hid (λW=>by have q:=aev _ _ W x.fr x.n;rw[show nW (m.fr,m.n)=eY from hb2]at q;exact q);unfold BI;rw[hz,hb1,hb2];clear hz hb1 hb2 x;have bB:((1:Int)!=1)=false:=rfl;clear bB;by_cases s:m.k≠1/\m.k≠2;·rw[if_pos s];have F:=hid s.1;have G:=hid s.2;clear s;go_enter wm,wq;have a:=bf w;go_step;refine ag ?_;refine bM (cs:=#[J _ _,J _ _,J _ _,J _ _,ad A _ c]) a _ (λd w1 a=>?_);refine ah ?_;refine an ?_;go_step;refine ag ?_;refine ah ?_;refine pl a 0 0 ?_;refine dr F (ak aB) ?_;refine v2 ?_;refine pl a 0 0 ?_;refine dr G (ak aB) ?_;refine ah ?_;refine an ?_;go_step;refine ag ?_;refine ah ?_;refine an ?_;go_wp2_with fail;go_ret;exact⟨aa,a.only⟩
 .rw[if_neg s];have p:m.k=1\/m.k=2:=ae;clear s;by_cases h1:z=0
  .subst h1;rw[if_pos aa];rcases p with hk|hk
   .have b:=hid hk;clear hk;go_enter wm,wq;have a:=bf w;go_step;refine ag ?_;refine bM (cs:=#[J _ _,J _ _,J _ _,J _ _,ad A _ c]) a _ (λd T a=>?_);refine ah ?_;refine an ?_;go_step;refine ag ?_;refine ah ?_;refine pl a 0 0 ?_;refine dr b (ak au) ?_;refine ah ?_;iterate 3 refine ps ?_
    refine ah ?_;refine an ?_;go_step;refine ag ?_;refine bq a 0 #[J R m.k,J R m.to,J R m.fr,J R m.n,ad A m.data.length c] ?_;refine a6 (f _) ?_;rintro e bL ⟨rfl,g⟩;replace a:=a.aH g;refine ba ?_;refine pk (ak aB) ?_;refine an ?_;go_step;refine ag ?_;refine ah ?_;refine an ?_;go_wp2_with fail;go_ret;exact⟨aa,a.only⟩
   .have b:=hid hk;clear hk;go_enter wm,wq;have a:=bf w;go_step;refine ag ?_;refine bM (cs:=#[J _ _,J _ _,J _ _,J _ _,ad A _ c]) a _ (λd ca a=>?_);refine ah ?_;refine an ?_;go_step;refine ag ?_;refine ah ?_;refine pl a 0 0 ?_;refine dr b (ak aB) ?_;refine v2 ?_;refine pl a 0 0 ?_;refine dr b (ak au) ?_;refine ah ?_;refine an ?_;go_step;refine ag ?_;refine bq a 0 #[J R m.k,J R m.to,J R m.fr,J R m.n,ad A m.data.length c] ?_;refine a6 (f _) ?_;rintro e cF ⟨rfl,g⟩;replace a:=a.aH g;refine ba ?_;refine pk (ak aB) ?_;refine an ?_;go_step;refine ag ?_;refine ah ?_;refine an ?_;go_wp2_with fail;go_ret;exact⟨aa,a.only⟩
  .have o:=hid h1;rw[if_neg h1];clear h1;cases eR with
   |false=>
    rw[if_pos aa];rcases p with hk|hk
    .have b:=hid hk;clear hk;go_enter wm,wq;have a:=bf w;go_step;refine ag ?_;refine bM (cs:=#[J _ _,J _ _,J _ _,J _ _,ad A _ c]) a _ (λd c6 a=>?_);refine ah ?_;refine an ?_;go_step;refine ag ?_;refine ah ?_;refine pl a 0 0 ?_;refine dr b (ak au) ?_;refine ah ?_;iterate 3 refine ps ?_
     refine ah ?_;refine an ?_;go_step;refine ag ?_;refine bq a 0 #[J R m.k,J R m.to,J R m.fr,J R m.n,ad A m.data.length c] ?_;refine a6 (f _) ?_;rintro e dW ⟨rfl,g⟩;replace a:=a.aH g;refine ba ?_;refine dr o (ak au) ?_;refine an ?_;go_step;refine ag ?_;refine bq a 0 #[J R m.k,J R m.to,J R m.fr,J R m.n,ad A m.data.length c] ?_;refine a6 (j _) ?_;rintro e dG ⟨rfl,g⟩;replace a:=a.aH g;refine ba ?_;refine a6 (l _) ?_;rintro e e8 ⟨rfl,g⟩;replace a:=a.aH g;refine ba ?_;refine pk (ak aB) ?_;refine an ?_;go_step;refine ag ?_;refine ah ?_;refine an ?_;go_wp2_with fail;go_ret;exact⟨aa,a.only⟩
    .have b:=hid hk;clear hk;go_enter wm,wq;have a:=bf w;go_step;refine ag ?_;refine bM (cs:=#[J _ _,J _ _,J _ _,J _ _,ad A _ c]) a _ (λd H a=>?_);refine ah ?_;refine an ?_;go_step;refine ag ?_;refine ah ?_;refine pl a 0 0 ?_;refine dr b (ak aB) ?_;refine v2 ?_;refine pl a 0 0 ?_;refine dr b (ak au) ?_;refine ah ?_;refine an ?_;go_step;refine ag ?_;refine bq a 0 #[J R m.k,J R m.to,J R m.fr,J R m.n,ad A m.data.length c] ?_;refine a6 (f _) ?_;rintro e I ⟨rfl,g⟩;replace a:=a.aH g;refine ba ?_;refine dr o (ak au) ?_;refine an ?_;go_step;refine ag ?_;refine bq a 0 #[J R m.k,J R m.to,J R m.fr,J R m.n,ad A m.data.length c] ?_;refine a6 (j _) ?_;rintro e K ⟨rfl,g⟩;replace a:=a.aH g;refine ba ?_;refine a6 (l _) ?_;rintro e L ⟨rfl,g⟩;replace a:=a.aH g;refine ba ?_;refine pk (ak aB) ?_;refine an ?_;go_step;refine ag ?_;refine ah ?_;refine an ?_;go_wp2_with fail;go_ret;exact⟨aa,a.only⟩
   |true=>
    rw[if_neg bh];by_cases i:m.k=1
    .have b:=hid i;have hk2:¬m.k=2:=ae;by_cases v:0<m.data.length
     .rw[if_pos ⟨i,bH v⟩];have u:((m.data.length:Int)>0):=ae;have y:=hid u;clear p i hk2 v u;go_enter wm,wq;have a:=bf w;go_step;refine ag ?_;refine bM (cs:=#[J _ _,J _ _,J _ _,J _ _,ad A _ c]) a _ (λd M a=>?_);refine ah ?_;refine an ?_;go_step;refine ag ?_;refine ah ?_;refine pl a 0 0 ?_;refine dr b (ak au) ?_;refine ah ?_;iterate 3 refine ps ?_
      refine ah ?_;refine an ?_;go_step;refine ag ?_;refine bq a 0 #[J R m.k,J R m.to,J R m.fr,J R m.n,ad A m.data.length c] ?_;refine a6 (f _) ?_;rintro e N ⟨rfl,g⟩;replace a:=a.aH g;refine ba ?_;refine dr o (ak au) ?_;refine an ?_;go_step;refine ag ?_;refine bq a 0 #[J R m.k,J R m.to,J R m.fr,J R m.n,ad A m.data.length c] ?_;refine a6 (j _) ?_;rintro e O ⟨rfl,g⟩;replace a:=a.aH g;refine ba ?_;refine a6 (l _) ?_;rintro e P ⟨rfl,g⟩;replace a:=a.aH g;refine ba ?_;refine pk (ak au) ?_;refine an ?_;go_step;refine ag ?_;refine ah ?_;refine pl a 0 0 ?_;refine dr b (ak aB) ?_;refine v2 ?_;refine pl a 0 4 ?_;refine ah ?_;refine aI (ak aB) (by(have h:=y.out;go_simp;try omega)) ?_;refine ah ?_;iterate 4 refine ps ?_
      refine v2 ?_;refine an ?_;go_step;refine ag ?_;refine ah ?_;refine an ?_;go_wp2_with fail;go_ret;exact⟨aa,a.only⟩
     .have u:¬((m.data.length:Int)>0):=ae;have y:=hid u;cases eY with
      |false=>
       rw[if_pos ⟨i,b1 aa⟩];clear p i hk2 v u;go_enter wm,wq;have a:=bf w;go_step;refine ag ?_;refine bM (cs:=#[J _ _,J _ _,J _ _,J _ _,ad A _ c]) a _ (λd Q a=>?_);refine ah ?_;refine an ?_;go_step;refine ag ?_;refine ah ?_;refine pl a 0 0 ?_;refine dr b (ak au) ?_;refine ah ?_;iterate 3 refine ps ?_
       refine ah ?_;refine an ?_;go_step;refine ag ?_;refine bq a 0 #[J R m.k,J R m.to,J R m.fr,J R m.n,ad A m.data.length c] ?_;refine a6 (f _) ?_;rintro e S ⟨rfl,g⟩;replace a:=a.aH g;refine ba ?_;refine dr o (ak au) ?_;refine an ?_;go_step;refine ag ?_;refine bq a 0 #[J R m.k,J R m.to,J R m.fr,J R m.n,ad A m.data.length c] ?_;refine a6 (j _) ?_;rintro e U ⟨rfl,g⟩;replace a:=a.aH g;refine ba ?_;refine a6 (l _) ?_;rintro e V ⟨rfl,g⟩;replace a:=a.aH g;refine ba ?_;refine pk (ak au) ?_;refine an ?_;go_step;refine ag ?_;refine ah ?_;refine pl a 0 0 ?_;refine dr b (ak aB) ?_;refine v2 ?_;refine pl a 0 4 ?_;refine ah ?_;refine aI (ak au) (by(have h:=y.out;go_simp;exact jH ae)) ?_;refine ah ?_;refine bq a 0 #[J R m.k,J R m.to,J R m.fr,J R m.n,ad A m.data.length c] ?_;refine a6 (D _) ?_;rintro e X ⟨rfl,g⟩;replace a:=a.aH g;refine ba ?_;refine a6 (E _) ?_;rintro e Y ⟨rfl,g⟩;replace a:=a.aH g;refine ba ?_;refine pk (ak aB) ?_;refine v2 ?_;refine an ?_;go_step;refine ag ?_;refine ah ?_;refine an ?_;go_wp2_with fail;go_ret;exact⟨aa,a.only⟩
      |true=>
       rw[if_neg (λh=>h.2.elim v (by intro h;cases h)),if_neg (λh=>hk2 h.1)];clear p i hk2 v u;go_enter wm,wq;have a:=bf w;go_step;refine ag ?_;refine bM (cs:=#[J _ _,J _ _,J _ _,J _ _,ad A _ c]) a _ (λd Z a=>?_);refine ah ?_;refine an ?_;go_step;refine ag ?_;refine ah ?_;refine pl a 0 0 ?_;refine dr b (ak au) ?_;refine ah ?_;iterate 3 refine ps ?_
       refine ah ?_;refine an ?_;go_step;refine ag ?_;refine bq a 0 #[J R m.k,J R m.to,J R m.fr,J R m.n,ad A m.data.length c] ?_;refine a6 (f _) ?_;rintro e Un ⟨rfl,g⟩;replace a:=a.aH g;refine ba ?_;refine dr o (ak au) ?_;refine an ?_;go_step;refine ag ?_;refine bq a 0 #[J R m.k,J R m.to,J R m.fr,J R m.n,ad A m.data.length c] ?_;refine a6 (j _) ?_;rintro e Uo ⟨rfl,g⟩;replace a:=a.aH g;refine ba ?_;refine a6 (l _) ?_;rintro e Up ⟨rfl,g⟩;replace a:=a.aH g;refine ba ?_;refine pk (ak au) ?_;refine an ?_;go_step;refine ag ?_;refine ah ?_;refine pl a 0 0 ?_;refine dr b (ak aB) ?_;refine v2 ?_;refine pl a 0 4 ?_;refine ah ?_;refine aI (ak au) (by(have h:=y.out;go_simp;exact jH ae)) ?_;refine ah ?_;refine bq a 0 #[J R m.k,J R m.to,J R m.fr,J R m.n,ad A m.data.length c] ?_;refine a6 (D _) ?_;rintro e Uq ⟨rfl,g⟩;replace a:=a.aH g;refine ba ?_;refine a6 (E _) ?_;rintro e afB ⟨rfl,g⟩;replace a:=a.aH g;refine ba ?_;refine pk (ak au) ?_;refine v2 ?_;refine an ?_;go_step;refine ag ?_;refine ah ?_;refine pl a 0 0 ?_;refine dr b (ak au) ?_;refine pk (ak au) ?_;iterate 8 refine ps ?_
       refine pk (ak au) ?_;refine an ?_;go_step;refine ag ?_;refine ah ?_;refine an ?_;go_wp2_with fail;go_ret;exact⟨aa,a.only⟩
    .have hk2:m.k=2:=ae;have b:=hid hk2;rw[if_neg (λh=>i h.1)];by_cases r:m.fr=0
     .have B:=hid r;by_cases t:m.n=0
      .rw[if_neg (λh=>h.2.elim (λh=>h r) (λh=>h t))];have C:=hid t;clear p i hk2 r t;go_enter wm,wq;have a:=bf w;go_step;refine ag ?_;refine bM (cs:=#[J _ _,J _ _,J _ _,J _ _,ad A _ c]) a _ (λd av4 a=>?_);refine ah ?_;refine an ?_;go_step;refine ag ?_;refine ah ?_;refine pl a 0 0 ?_;refine dr b (ak aB) ?_;refine v2 ?_;refine pl a 0 0 ?_;refine dr b (ak au) ?_;refine ah ?_;refine an ?_;go_step;refine ag ?_;refine bq a 0 #[J R m.k,J R m.to,J R m.fr,J R m.n,ad A m.data.length c] ?_;refine a6 (f _) ?_;rintro e av5 ⟨rfl,g⟩;replace a:=a.aH g;refine ba ?_;refine dr o (ak au) ?_;refine an ?_;go_step;refine ag ?_;refine bq a 0 #[J R m.k,J R m.to,J R m.fr,J R m.n,ad A m.data.length c] ?_;refine a6 (j _) ?_;rintro e av6 ⟨rfl,g⟩;replace a:=a.aH g;refine ba ?_;refine a6 (l _) ?_;rintro e av7 ⟨rfl,g⟩;replace a:=a.aH g;refine ba ?_;refine pk (ak au) ?_;refine an ?_;go_step;refine ag ?_;refine ah ?_;refine pl a 0 0 ?_;refine dr b (ak au) ?_;refine pk (ak au) ?_;iterate 10 refine ps ?_
       refine pk (ak au) ?_;refine an ?_;go_step;refine ag ?_;refine ah ?_;refine pl a 0 0 ?_;refine dr b (ak aB) ?_;refine v2 ?_;refine pl a 0 2 ?_;refine dr B (ak au) ?_;refine v2 ?_;refine pl a 0 3 ?_;refine dr C (ak au) ?_;refine v2 ?_;refine an ?_;go_step;refine ag ?_;refine ah ?_;refine an ?_;go_wp2_with fail;go_ret;exact⟨aa,a.only⟩
      .rw[if_pos ⟨hk2,b1 t⟩];have C:=hid t;clear p i hk2 r t;go_enter wm,wq;have a:=bf w;go_step;refine ag ?_;refine bM (cs:=#[J _ _,J _ _,J _ _,J _ _,ad A _ c]) a _ (λd av8 a=>?_);refine ah ?_;refine an ?_;go_step;refine ag ?_;refine ah ?_;refine pl a 0 0 ?_;refine dr b (ak aB) ?_;refine v2 ?_;refine pl a 0 0 ?_;refine dr b (ak au) ?_;refine ah ?_;refine an ?_;go_step;refine ag ?_;refine bq a 0 #[J R m.k,J R m.to,J R m.fr,J R m.n,ad A m.data.length c] ?_;refine a6 (f _) ?_;rintro e av9 ⟨rfl,g⟩;replace a:=a.aH g;refine ba ?_;refine dr o (ak au) ?_;refine an ?_;go_step;refine ag ?_;refine bq a 0 #[J R m.k,J R m.to,J R m.fr,J R m.n,ad A m.data.length c] ?_;refine a6 (j _) ?_;rintro e awa ⟨rfl,g⟩;replace a:=a.aH g;refine ba ?_;refine a6 (l _) ?_;rintro e awb ⟨rfl,g⟩;replace a:=a.aH g;refine ba ?_;refine pk (ak au) ?_;refine an ?_;go_step;refine ag ?_;refine ah ?_;refine pl a 0 0 ?_;refine dr b (ak au) ?_;refine pk (ak au) ?_;iterate 10 refine ps ?_
       refine pk (ak au) ?_;refine an ?_;go_step;refine ag ?_;refine ah ?_;refine pl a 0 0 ?_;refine dr b (ak aB) ?_;refine v2 ?_;refine pl a 0 2 ?_;refine dr B (ak au) ?_;refine v2 ?_;refine pl a 0 3 ?_;refine dr C (ak aB) ?_;refine v2 ?_;refine an ?_;go_step;refine ag ?_;refine ah ?_;refine an ?_;go_wp2_with fail;go_ret;exact⟨aa,a.only⟩
     .have B:=hid r;rw[if_pos ⟨hk2,bH r⟩];clear p i hk2 r;go_enter wm,wq;have a:=bf w;go_step;refine ag ?_;refine bM (cs:=#[J _ _,J _ _,J _ _,J _ _,ad A _ c]) a _ (λd awc a=>?_);refine ah ?_;refine an ?_;go_step;refine ag ?_;refine ah ?_;refine pl a 0 0 ?_;refine dr b (ak aB) ?_;refine v2 ?_;refine pl a 0 0 ?_;refine dr b (ak au) ?_;refine ah ?_;refine an ?_;go_step;refine ag ?_;refine bq a 0 #[J R m.k,J R m.to,J R m.fr,J R m.n,ad A m.data.length c] ?_;refine a6 (f _) ?_;rintro e aAc ⟨rfl,g⟩;replace a:=a.aH g;refine ba ?_;refine dr o (ak au) ?_;refine an ?_;go_step;refine ag ?_;refine bq a 0 #[J R m.k,J R m.to,J R m.fr,J R m.n,ad A m.data.length c] ?_;refine a6 (j _) ?_;rintro e aAd ⟨rfl,g⟩;replace a:=a.aH g;refine ba ?_;refine a6 (l _) ?_;rintro e aAe ⟨rfl,g⟩;replace a:=a.aH g;refine ba ?_;refine pk (ak au) ?_;refine an ?_;go_step;refine ag ?_;refine ah ?_;refine pl a 0 0 ?_;refine dr b (ak au) ?_;refine pk (ak au) ?_;iterate 10 refine ps ?_
      refine pk (ak au) ?_;refine an ?_;go_step;refine ag ?_;refine ah ?_;refine pl a 0 0 ?_;refine dr b (ak aB) ?_;refine v2 ?_;refine pl a 0 2 ?_;refine dr B (ak aB) ?_;refine ah ?_;iterate 3 refine ps ?_
      refine v2 ?_;refine an ?_;go_step;refine ag ?_;refine ah ?_;refine an ?_;go_wp2_with fail;go_ret;exact⟨aa,a.only⟩
end
section
attribute [local irreducible] wpList c9
def hasB(m:bG)(off:Int):Bool:=decide (m.to<=off/\off<m.to+cS m)
def tZ(ms:List bG)(off:Int):Int:=match ms.findIdx? (λm=>hasB m off)with|some i=>(i:Int)|none=>-1
def CP(o n:Int)(m:bG):Int:=if BI m≠0 then BI m else if m.k=1/\m.fr+m.n>o then 5 else if m.to+cS m>n then 6 else 0
def at2 m b c off w(hv:eD (b8 m)):
 aD ax 165 #[mz m b c,J R off] w λe w'=>e=aA (ak (hasB m off))/\aq w w':=by
 obtain⟨r,hr⟩:=ex (hasB m off);have d:=hid (λW=>aai _ _ _ W hv r hr);have f:=hid (λW=>Fw m b c W);rw[hr];clear hr hv;obtain⟨z,hz⟩:=ex (cS m);rw[hz]at d f;clear hz;go_enter func165,ntmps165;have a:=bf w;go_step;refine ag ?_;refine bM (cs:=#[J _ _,J _ _,J _ _,J _ _,ad b _ c]) a _ (λg w1 a=>?_);refine dQ ?_;refine bq a 0 #[J R m.k,J R m.to,J R m.fr,J R m.n,ad b m.data.length c] ?_;refine bA (f _) a (λh a=>?_);refine ah ?_;refine bA (d _) a (λi a=>?_);refine bP ?_;go_wp2_with fail;go_ret;exact⟨aa,a.only⟩
def aee(o n)(g1 g2)A c ms off w(v:cC w A ms)(N:ms.length<=1048576)(hv:∀m∈ms,eD (b8 m)):
 aD ax 77 #[dC o n g1 g2 (ad A ms.length c),J R off] w λe w'=>e=aA (J R (tZ ms off))/\aq w w':=by
 have F:=hid v;have G:=hid hv;clear v hv;go_enter func77,ntmps77;have a:=bf w;go_step;refine ag ?_;refine bM a (av _) (λB w1 a=>?_);refine ah ?_;refine ag ?_;refine ah ?_;refine an ?_;have p:=a.pk [0];go_wp2_with fail;go_loopw [5] (λk wr=>∃j:Nat,j<=ms.length/\k=J R (j:Int)/\aE (∀(i:Nat) (x:bG),i<j->ms[i]?=ab x->hasB x off=au)/\aj w (λ_=>False) wr [ai B (a1 o n g1 g2 (ad A ms.length c)) 26]) (λk wr=>ms.length -(cd k).toNat);case atStart=>exact⟨0,cQ _,aa,hid (λi x h=>absurd h (Bv _)),p⟩
 case round=>
  clear a p;obtain⟨j,M,rfl,b,a⟩:=hrel;by_cases hlt:j<ms.length
  .have I:(j:Int)<(ms.length:Int):=ae;obtain⟨m,f⟩:∃m,ms[j]?=ab m:=⟨_,cj hlt⟩;obtain⟨q,K,z,H,s,t,u⟩:=cC.h9 F f;have C:=hid s;have L:=hid t;have D:=hid u;have d:=hid f;clear s t u f;obtain⟨r,hr⟩:=ex (hasB m off);have l:=hid hr;have E:aE (∀W,aD _ _ #[av _,J _ _] W λe w'=>e=aA (ak r)/\aq W w'):=hid (λW=>by rw[<-hr];exact at2 m z H _ W (G m (cL d)));clear hr;go_step;refine ag ?_;refine v2 ?_;refine pl a 0 66 ?_ (hv:=eS);refine ah ?_;refine cb (ak aB) ?_;refine b4 ?_;refine pl a 0 66 ?_ (hv:=eS);refine ah ?_;refine aI _ (cH 24 73 5 (bb 14) _ aa eA aw q K _ c j _ (by show ad A _ _=_;rw[C]) aa hlt aa) ?_;refine aI _ (by(refine e6 73 _ aa q _ aa _ (D _ a.only) fW aa aw)) ?_;refine ah ?_;refine bA (E _) a (λO a=>?_);refine an ?_;cases r with
   |true=>
    refine ag ?_;refine dP ?_;go_wp2_with fail;go_ret;exact⟨by rw[show tZ ms _=(j:Int)from by unfold tZ;rw[Lj d l.out b]];rfl,a.only⟩
   |false=>
    refine b4 ?_;refine pad (j:Int) 1 ((j+1:Nat):Int) ?_;refine bP ?_;go_wp2_with fail;go_roundw;case rel=>exact⟨j+1,ae,aa,hid (λi y hi g=>by rcases wP.1 hi with h|rfl;exact b i y h g;rw[d]at g;cases g;exact l),a⟩
    case measure=>simp[cd]<;>omega
  .have I:¬(j:Int)<(ms.length:Int):=ae;obtain rfl:j=ms.length:=ae;go_step;refine ag ?_;refine v2 ?_;refine pl a 0 66 ?_ (hv:=eS);refine ah ?_;refine cb (ak au) ?_;refine ag ?_;refine ah ?_;refine an ?_;go_wp2_with fail;go_ret;exact⟨by rw[show tZ ms _=-1 from by unfold tZ;rw[Li (λi x hi=>b i x (eQ.1 hi).1 hi)]];rfl,a.only⟩
def auf(o n)(g1 g2)S(K:S.oneCell'=aB)m b c w(y:r1 m):
 aD ax 238 #[dC o n g1 g2 S,mz m b c] w λe w'=>e=aA (J R (CP o n m))/\aq w w':=by
 obtain⟨z,hz⟩:=ex (BI m);have l:aE (∀W,aD _ _ #[av _] W λe w'=>e=aA (J _ z)/\aq W w'):=hid (λW=>by rw[<-hz];exact aty m b c W y);unfold CP;rw[hz];by_cases x:z=0
 .subst x;have u:=YD hz;rw[if_neg (λh=>h aa)];have F:=u.b8;have t:aE (∀W,aD _ _ #[av _] W λe w'=>e=aA _/\aq W w'):=hid (λW=>M9 m b c W);clear hz y;obtain⟨fb,C⟩:=ex (cS m);rw[C]at t F⊢;clear C;by_cases hk:m.k=1
  .have p:=hid hk;have E:=(u.copy hk);obtain⟨G,H,I,_⟩:=E;by_cases q:m.fr+m.n>o;·rw[if_pos ⟨hk,q⟩];have v:=hid q;clear q hk u;go_enter F0,F3;have a:=bf w;go_step;refine ag ?_;refine bM a (av _) (λr w1 a=>?_);refine bM (cs:=#[J _ _,J _ _,J _ _,J _ _,ad b _ c]) a _ (λs Y a=>?_);refine ah ?_;refine an ?_;go_step;refine ag ?_;refine bq a 0 #[J R m.k,J R m.to,J R m.fr,J R m.n,ad b m.data.length c] ?_;refine a6 (l _) ?_;rintro e bL ⟨rfl,g⟩;replace a:=a.aH g;refine ba ?_;refine ah ?_;refine an ?_;go_step;refine ag ?_;refine ah ?_;refine pk (ak au) ?_;refine an ?_;go_step;refine ag ?_;refine ah ?_;refine pl a 0 0 ?_;refine dr p (ak aB) ?_;refine v2 ?_;refine pl a 0 2 ?_;refine ah ?_;refine pl a 0 3 ?_;refine pad _ _ (m.fr+m.n) ?_;refine ah ?_;refine pl a 1 0 ?_ (hv:=mA);refine aI (ak aB) (by(have h:=v.out;go_simp;try omega)) ?_;refine ah ?_;refine an ?_;go_step;refine ag ?_;refine ah ?_;refine an ?_;go_wp2_with fail;go_ret;exact⟨aa,a.only⟩
   .rw[if_neg (λh=>q h.2)];have v:=hid q;clear q hk u;by_cases d:m.to+fb>n
    .have f:=hid d;rw[if_pos d];clear d;go_enter F0,F3;have a:=bf w;go_step;refine ag ?_;refine bM a (av _) (λr ca a=>?_);refine bM (cs:=#[J _ _,J _ _,J _ _,J _ _,ad b _ c]) a _ (λs cF a=>?_);refine ah ?_;refine an ?_;go_step;refine ag ?_;refine bq a 0 #[J R m.k,J R m.to,J R m.fr,J R m.n,ad b m.data.length c] ?_;refine a6 (l _) ?_;rintro e c6 ⟨rfl,g⟩;replace a:=a.aH g;refine ba ?_;refine ah ?_;refine an ?_;go_step;refine ag ?_;refine ah ?_;refine pk (ak au) ?_;refine an ?_;go_step;refine ag ?_;refine ah ?_;refine pl a 0 0 ?_;refine dr p (ak aB) ?_;refine v2 ?_;refine pl a 0 2 ?_;refine ah ?_;refine pl a 0 3 ?_;refine pad _ _ (m.fr+m.n) ?_;refine ah ?_;refine pl a 1 0 ?_ (hv:=mA);refine aI (ak au) (by(have h:=v.out;go_simp;try omega)) ?_;refine ah ?_;refine an ?_;go_step;refine ct ?_;refine bN a [3] (λi _=>match i with|3=>J R fb|_=>aY) (λ_ _=>emp) (λ_=>[]) (λ|1=>[0]|2=>[0]|6=>[1]|_=>[]) (λ_=>[]) [0,1,5] (λA=>?_);refine aK ?_;refine dl 0 1 ?_;refine ea 0 #[J R m.k,J R m.to,J R m.fr,J R m.n,ad b m.data.length c] ?_;refine df (λj Fr a=>(t j).mono ?_) ?_;·rintro e B ⟨rfl,g⟩;exact⟨{},aa,(a.aH g).dS⟩
     refine aL _ (λ_ _ _=>lK 3 _ _ 3 aa _ _ (m.to+fb) aa aa ae ae ae) ?_;refine aK ?_;refine dl 0 1 ?_ (hv:=jh);refine aL (ak aB) (λ_ _ _=>by(have h:=f.out;go_simp;try omega)) ?_;refine bQ λdW a=>?_;replace a:=a.drop 2;go_step;refine ag ?_;refine ah ?_;refine an ?_;go_wp2_with fail;go_ret;exact⟨aa,a.only⟩
    .have f:=hid d;rw[if_neg d];clear d;go_enter F0,F3;have a:=bf w;go_step;refine ag ?_;refine bM a (av _) (λr dG a=>?_);refine bM (cs:=#[J _ _,J _ _,J _ _,J _ _,ad b _ c]) a _ (λs e8 a=>?_);refine ah ?_;refine an ?_;go_step;refine ag ?_;refine bq a 0 #[J R m.k,J R m.to,J R m.fr,J R m.n,ad b m.data.length c] ?_;refine a6 (l _) ?_;rintro e L ⟨rfl,g⟩;replace a:=a.aH g;refine ba ?_;refine ah ?_;refine an ?_;go_step;refine ag ?_;refine ah ?_;refine pk (ak au) ?_;refine an ?_;go_step;refine ag ?_;refine ah ?_;refine pl a 0 0 ?_;refine dr p (ak aB) ?_;refine v2 ?_;refine pl a 0 2 ?_;refine ah ?_;refine pl a 0 3 ?_;refine pad _ _ (m.fr+m.n) ?_;refine ah ?_;refine pl a 1 0 ?_ (hv:=mA);refine aI (ak au) (by(have h:=v.out;go_simp;try omega)) ?_;refine ah ?_;refine an ?_;go_step;refine ct ?_;refine bN a [3] (λi _=>match i with|3=>J R fb|_=>aY) (λ_ _=>emp) (λ_=>[]) (λ|1=>[0]|2=>[0]|6=>[1]|_=>[]) (λ_=>[]) [0,1,5] (λA=>?_);refine aK ?_;refine dl 0 1 ?_;refine ea 0 #[J R m.k,J R m.to,J R m.fr,J R m.n,ad b m.data.length c] ?_;refine df (λj Fr a=>(t j).mono ?_) ?_;·rintro e B ⟨rfl,g⟩;exact⟨{},aa,(a.aH g).dS⟩
     refine aL _ (λ_ _ _=>lK 3 _ _ 3 aa _ _ (m.to+fb) aa aa ae ae ae) ?_;refine aK ?_;refine dl 0 1 ?_ (hv:=jh);refine aL (ak au) (λ_ _ _=>by(have h:=f.out;go_simp;try omega)) ?_;refine bQ λM a=>?_;replace a:=a.drop 2;go_step;refine ag ?_;refine ah ?_;refine an ?_;go_wp2_with fail;go_ret;exact⟨aa,a.only⟩
  .have p:=hid hk;rw[if_neg (λh=>hk h.1)];clear hk u;by_cases d:m.to+fb>n
   .have f:=hid d;rw[if_pos d];clear d;go_enter F0,F3;have a:=bf w;go_step;refine ag ?_;refine bM a (av _) (λr N a=>?_);refine bM (cs:=#[J _ _,J _ _,J _ _,J _ _,ad b _ c]) a _ (λs O a=>?_);refine ah ?_;refine an ?_;go_step;refine ag ?_;refine bq a 0 #[J R m.k,J R m.to,J R m.fr,J R m.n,ad b m.data.length c] ?_;refine a6 (l _) ?_;rintro e P ⟨rfl,g⟩;replace a:=a.aH g;refine ba ?_;refine ah ?_;refine an ?_;go_step;refine ag ?_;refine ah ?_;refine pk (ak au) ?_;refine an ?_;go_step;refine ag ?_;refine ah ?_;refine pl a 0 0 ?_;refine dr p (ak au) ?_;refine ah ?_;iterate 8 refine ps ?_
    refine ah ?_;refine an ?_;go_step;refine ct ?_;refine bN a [3] (λi _=>match i with|3=>J R fb|_=>aY) (λ_ _=>emp) (λ_=>[]) (λ|1=>[0]|2=>[0]|6=>[1]|_=>[]) (λ_=>[]) [0,1,5] (λA=>?_);refine aK ?_;refine dl 0 1 ?_;refine ea 0 #[J R m.k,J R m.to,J R m.fr,J R m.n,ad b m.data.length c] ?_;refine df (λj Fr a=>(t j).mono ?_) ?_;·rintro e B ⟨rfl,g⟩;exact⟨{},aa,(a.aH g).dS⟩
    refine aL _ (λ_ _ _=>lK 3 _ _ 3 aa _ _ (m.to+fb) aa aa ae ae ae) ?_;refine aK ?_;refine dl 0 1 ?_ (hv:=jh);refine aL (ak aB) (λ_ _ _=>by(have h:=f.out;go_simp;try omega)) ?_;refine bQ λQ a=>?_;replace a:=a.drop 2;go_step;refine ag ?_;refine ah ?_;refine an ?_;go_wp2_with fail;go_ret;exact⟨aa,a.only⟩
   .have f:=hid d;rw[if_neg d];clear d;go_enter F0,F3;have a:=bf w;go_step;refine ag ?_;refine bM a (av _) (λr T a=>?_);refine bM (cs:=#[J _ _,J _ _,J _ _,J _ _,ad b _ c]) a _ (λs U a=>?_);refine ah ?_;refine an ?_;go_step;refine ag ?_;refine bq a 0 #[J R m.k,J R m.to,J R m.fr,J R m.n,ad b m.data.length c] ?_;refine a6 (l _) ?_;rintro e V ⟨rfl,g⟩;replace a:=a.aH g;refine ba ?_;refine ah ?_;refine an ?_;go_step;refine ag ?_;refine ah ?_;refine pk (ak au) ?_;refine an ?_;go_step;refine ag ?_;refine ah ?_;refine pl a 0 0 ?_;refine dr p (ak au) ?_;refine ah ?_;iterate 8 refine ps ?_
    refine ah ?_;refine an ?_;go_step;refine ct ?_;refine bN a [3] (λi _=>match i with|3=>J R fb|_=>aY) (λ_ _=>emp) (λ_=>[]) (λ|1=>[0]|2=>[0]|6=>[1]|_=>[]) (λ_=>[]) [0,1,5] (λA=>?_);refine aK ?_;refine dl 0 1 ?_;refine ea 0 #[J R m.k,J R m.to,J R m.fr,J R m.n,ad b m.data.length c] ?_;refine df (λj Fr a=>(t j).mono ?_) ?_;·rintro e B ⟨rfl,g⟩;exact⟨{},aa,(a.aH g).dS⟩
    refine aL _ (λ_ _ _=>lK 3 _ _ 3 aa _ _ (m.to+fb) aa aa ae ae ae) ?_;refine aK ?_;refine dl 0 1 ?_ (hv:=jh);refine aL (ak au) (λ_ _ _=>by(have h:=f.out;go_simp;try omega)) ?_;refine bQ λX a=>?_;replace a:=a.drop 2;go_step;refine ag ?_;refine ah ?_;refine an ?_;go_wp2_with fail;go_ret;exact⟨aa,a.only⟩
 .rw[if_pos x];have D:=hid x;clear x hz y;go_enter F0,F3;have a:=bf w;go_step;refine ag ?_;refine bM a (av _) (λr Z a=>?_);refine bM (cs:=#[J _ _,J _ _,J _ _,J _ _,ad b _ c]) a _ (λs CZ a=>?_);refine ah ?_;refine an ?_;go_step;refine ag ?_;refine bq a 0 #[J R m.k,J R m.to,J R m.fr,J R m.n,ad b m.data.length c] ?_;refine a6 (l _) ?_;rintro e C0 ⟨rfl,g⟩;replace a:=a.aH g;refine ba ?_;refine ah ?_;refine an ?_;go_step;refine ag ?_;refine ah ?_;refine dr D (ak aB) ?_;refine an ?_;go_step;refine ag ?_;refine v2 ?_;refine an ?_;go_wp2_with fail;go_ret;exact⟨aa,a.only⟩
end
section
attribute [local irreducible] wpList c9
def Ff(ms:List bG):Nat->Int
 |0=>0
 |t+1=>match ms[t]? with|some m=>m.to+cS m|none=>0
def oz(n:Int)(ms:List bG)(t:Nat):Bool:=decide (Ff ms t<n)&&decide (tZ ms (Ff ms t)<0)
structure om (o n:Int) (ms:List bG):Prop where
 bd:(0<=o/\0<=n)/\o<=4611686018427387903/\n<=4611686018427387903
 bC:∀m∈ms,CP o n m=0
 ap:∀(i j:Nat) (x y:bG),j<i->ms[i]?=ab x->ms[j]?=ab y->meets (b8 x) (b8 y)=au
 ZJ:∀t,t<=ms.length->oz n ms t=au
def uL(n:Int)(ms:List bG)(t:Nat)(a:Int):Prop:=(a=-1/\∀s,s<t->oz n ms s=au)\/(0<=a/\∃s,s<t/\oz n ms s=aB)
def uL.oA{n ms t a}(h:uL n ms t a)(hb:oz n ms t=au):uL n ms (t+1) a:=by
 rcases h with⟨h1,b⟩|⟨h1,s,b,c⟩;·exact bH ⟨h1,λs d=>aF⟩
 .exact b1 ⟨h1,s,ae,c⟩
theorem uL.bad{n ms t a}(h1:0<=a)(hb:oz n ms t=aB):uL n ms (t+1) a:=b1 ⟨h1,t,Nat.lt_succ_self _,hb⟩
def hX.CW{m}(h:hX m):eD (Go.Proofs.YtcmhplknoglbkaaGreat.b8 m):=⟨h.b8.1,DH h.b8.2.1,h.b8.2.2⟩
set_option maxHeartbeats 16000000 in
def at0(o n)(g1 g2)A c ms w(B:cC w A ms)(fl:ms.length<=1048576)(hv:∀m∈ms,hX m):
 aD ax 239 #[dC o n g1 g2 (ad A ms.length c)] w λe w'=>∃d,e=aA (J R d)/\uL n ms (ms.length+1) d/\aq w w':=by
 have Q:=hid B;have V:=hid hv;have Q:=hid B;have V:=hid hv;have P:=hid (λW off y=>aee o n g1 g2 A c ms off W (B.aH y) fl (λm z=>(hv m z).CW));clear B hv;go_enter func239,ntmps239;have a:=bf w;go_step;refine ag ?_;refine bM a (av _) (λdy w1 a=>?_);refine ah ?_;refine an ?_;go_step;refine ag ?_;refine ah ?_;refine an ?_;go_step;refine ag ?_;refine ah ?_;refine an ?_;have U:=a.pk [0];go_wp2_with fail;go_loopw [3,4] (λgD L wr=>∃(t:Nat) (d:Int),t<=ms.length+1/\gD=J R d/\L=J R ((t:Int) -1)/\aE (uL n ms t d)/\aj w (λ_=>False) wr [ai dy (a1 o n g1 g2 (ad A ms.length c)) 26]) (λgD L wr=>ms.length+1 -(cd L+1).toNat);case atStart=>exact⟨0,-1,cQ _,aa,aa,hid (bH ⟨rfl,λs h=>absurd h (Bv _)⟩),U⟩
 case round=>
  clear a U;obtain⟨t,d,ht,rfl,rfl,r,a⟩:=hrel;by_cases hlt:t<=ms.length
  .have cI:((t:Int) -1)<(ms.length:Int):=ae;obtain⟨off,C⟩:=ex (Ff ms t);have v:=hid C;cases t with
   |zero=>
    have K:(0:Int)=off:=C;subst K;have I:(0:Int)<=0:=Int.le_refl _;clear C;go_step;refine ag ?_;iterate 2 refine ah ?_
    refine pl a 0 66 ?_ (hv:=eS);refine ah ?_;refine cb (ak aB) ?_;refine an ?_;go_step;refine ag ?_;refine ah ?_;refine an ?_;go_step;refine ag ?_;refine ah ?_;refine pk (ak au) ?_;refine an ?_;by_cases k:0<n
    .have b:=hid k;obtain⟨G,u⟩:=ex (tZ ms 0);have p:=hid (λW y=>by have q:=P W 0 y;rwa [u]at q);have x:=hid u;clear k u;by_cases l:G<0
     .have f:=hid l;have j:aE (oz n ms 0=aB):=hid (by unfold oz;rw[v,x];simp[b.out,f.out]);clear l;rcases r.out with⟨rfl,H⟩|⟨en,_⟩
      .clear H;go_step;refine ag ?_;iterate 2 refine ah ?_
       refine pl a 0 1 ?_ (hv:=jh);refine aI (ak aB) (by(have h:=b.out;go_simp;try omega)) ?_;refine ah ?_;refine bq a 0 (a1 o n g1 g2 (ad A ms.length c)) ?_ (hv:=(ee _)) (hk:=by omega) (hz:=(by rw[cN];rfl));refine ah ?_;refine a6 (p _ a.only) ?_;rintro e aR ⟨rfl,g⟩;replace a:=a.aH g;refine ba ?_;refine aI (ak aB) (by(have h:=f.out;go_simp;try omega)) ?_;iterate 3 refine ah ?_
       refine pk (ak aB) ?_;refine ah ?_;iterate 3 refine ps ?_
       iterate 2 refine ah ?_
       refine an ?_;go_step;refine ag ?_;iterate 2 refine ah ?_
       refine an ?_;go_step;refine ag ?_;refine ah ?_;refine pad _ 1 (((0+1:Nat):Int) -1) ?_;refine ah ?_;refine an ?_;go_wp2_with fail;go_roundw;case rel=>grind[hid,uL.bad]
       case measure=>grind[cd]
      .omega
     .have f:=hid l;have j:aE (oz n ms 0=au):=hid (by unfold oz;rw[v,x];simp[f.out]);clear l;go_step;refine ag ?_;iterate 2 refine ah ?_
      refine pl a 0 1 ?_ (hv:=jh);refine aI (ak aB) (by(have h:=b.out;go_simp;try omega)) ?_;refine ah ?_;refine bq a 0 (a1 o n g1 g2 (ad A ms.length c)) ?_ (hv:=(ee _)) (hk:=by omega) (hz:=(by rw[cN];rfl));refine ah ?_;refine a6 (p _ a.only) ?_;rintro e cF ⟨rfl,g⟩;replace a:=a.aH g;refine ba ?_;refine aI (ak au) (by(have h:=f.out;go_simp;try omega)) ?_;iterate 2 refine ah ?_
      iterate 7 refine ps ?_
      refine ah ?_;refine an ?_;go_step;refine ag ?_;refine ah ?_;refine pad _ 1 (((0+1:Nat):Int) -1) ?_;refine ah ?_;refine an ?_;go_wp2_with fail;go_roundw;case rel=>exact⟨_,d,ae,aa,aa,hid (r.out.oA j),a.pick [0]⟩
      case measure=>grind[cd]
    .have b:=hid k;have j:aE (oz n ms 0=au):=hid (by unfold oz;rw[v];simp[b.out]);clear k;go_step;refine ag ?_;iterate 2 refine ah ?_
     refine pl a 0 1 ?_ (hv:=jh);refine aI (ak au) (by(have h:=b.out;go_simp;try omega)) ?_;refine ah ?_;iterate 4 refine ps ?_
     iterate 2 refine ah ?_
     iterate 7 refine ps ?_
     refine ah ?_;refine an ?_;go_step;refine ag ?_;refine ah ?_;refine pad _ 1 (((0+1:Nat):Int) -1) ?_;refine ah ?_;refine an ?_;go_wp2_with fail;go_roundw;case rel=>exact⟨_,d,ae,aa,aa,hid (r.out.oA j),a.pick [0]⟩
     case measure=>grind[cd]
   |succ s=>
    obtain⟨m,z⟩:∃m,ms[s]?=ab m:=⟨_,cj ae⟩;have jq:=V m (cL z);have sS:=jq.CW;obtain⟨v1,v2,v3⟩:=sS;have v1:0<=m.to:=v1;have v2:0<=cS m:=v2;have v3:m.to+cS m<=4611686018427387903:=v3;have K:m.to+cS m=off:=by grind[Ff]
    obtain⟨F,M,aP,aQ,X,dM,Y⟩:=cC.h9 Q z;have N:=hid X;have O:=hid Y;have S:aE (∀W,aD _ _ #[av _] W λe w'=>e=aA _/\aq W w'):=hid (λW=>M9 m aP aQ W);obtain⟨fb,jK⟩:=ex (cS m);rw[jK]at S v2 v3 K;have I:0<=off:=ae;clear X dM Y z C jq jK;have Z:s<ms.length:=ae;have hs1:(((s+1:Nat):Int) -1)=(s:Int):=ae;rw[hs1];go_step;refine ag ?_;iterate 2 refine ah ?_
    refine pl a 0 66 ?_ (hv:=eS);refine ah ?_;refine cb (ak aB) ?_;refine an ?_;go_step;refine ag ?_;refine ah ?_;refine an ?_;go_step;refine ag ?_;refine ah ?_;refine cb (ak aB) ?_;refine an ?_;go_step;refine ct ?_;refine bN a [11] (λi _=>match i with|11=>J R fb|_=>aY) (λ_ _=>emp) (λ_=>[]) (λ|1=>[0]|7=>[0]|_=>[]) (λ_=>[]) [0,12] (λus=>?_);refine aK ?_;refine dl 0 66 ?_ (hv:=eS);refine aK ?_;refine aL _ (λ_ _ _=>cH 24 73 5 _ _ aa eA aw F M _ c s _ (by show ad A _ _=_;rw[N]) aa Z aa) ?_;refine aK ?_;refine aL _ (λ_ _ a=>nr aa aa (O _ a.only 1 _ aa) aw) ?_;refine aK ?_;refine dl 0 66 ?_ (hv:=eS);refine aK ?_;refine aL _ (λ_ _ _=>cH 24 73 5 _ _ aa eA aw F M _ c s _ (by show ad A _ _=_;rw[N]) aa Z aa) ?_;refine aL _ (λ_ _ a=>e6 73 (bb 24) aa F (M+s*5) aa _ (O _ a.only) fW aa aw) ?_;refine df (λwl Fr a=>(S wl).mono ?_) ?_;·rintro e dm ⟨rfl,g⟩;exact⟨{},aa,(a.aH g).dS⟩
    refine aL _ (λ_ _ _=>lK 3 _ _ 3 aa _ _ off aa aa ae ae ae) ?_;refine aK ?_;refine bQ λc6 a=>?_;replace a:=a.drop 1;by_cases k:off<n
    .have b:=hid k;obtain⟨G,u⟩:=ex (tZ ms off);have p:=hid (λW y=>by have q:=P W off y;rwa [u]at q);have x:=hid u;clear k u;by_cases l:G<0
     .have f:=hid l;have j:aE (oz n ms _=aB):=hid (by unfold oz;rw[v,x];simp[b.out,f.out]);clear l;rcases r.out with⟨rfl,H⟩|⟨en,_⟩
      .clear H;go_step;refine ag ?_;iterate 2 refine ah ?_
       refine pl a 0 1 ?_ (hv:=jh);refine aI (ak aB) (by(have h:=b.out;go_simp;try omega)) ?_;refine ah ?_;refine bq a 0 (a1 o n g1 g2 (ad A ms.length c)) ?_ (hv:=(ee _)) (hk:=by omega) (hz:=(by rw[cN];rfl));refine ah ?_;refine a6 (p _ a.only) ?_;rintro e dW ⟨rfl,g⟩;replace a:=a.aH g;refine ba ?_;refine aI (ak aB) (by(have h:=f.out;go_simp;try omega)) ?_;iterate 3 refine ah ?_
       refine pk (ak aB) ?_;refine ah ?_;iterate 3 refine ps ?_
       iterate 2 refine ah ?_
       refine an ?_;go_step;refine ag ?_;iterate 2 refine ah ?_
       refine an ?_;go_step;refine ag ?_;refine ah ?_;refine pad _ 1 (((s+1+1:Nat):Int) -1) ?_;refine ah ?_;refine an ?_;go_wp2_with fail;go_roundw;case rel=>exact⟨_,_,ae,aa,congrArg _ ae,hid (uL.bad I j),a.pick [0]⟩
       case measure=>grind[cd]
      .have T:aE (¬d<0):=hid ae;by_cases D:off<d
       .have E:=hid D;clear D;go_step;refine ag ?_;iterate 2 refine ah ?_
        refine pl a 0 1 ?_ (hv:=jh);refine aI (ak aB) (by(have h:=b.out;go_simp;try omega)) ?_;refine ah ?_;refine bq a 0 (a1 o n g1 g2 (ad A ms.length c)) ?_ (hv:=(ee _)) (hk:=by omega) (hz:=(by rw[cN];rfl));refine ah ?_;refine a6 (p _ a.only) ?_;rintro e dG ⟨rfl,g⟩;replace a:=a.aH g;refine ba ?_;refine aI (ak aB) (by(have h:=f.out;go_simp;try omega)) ?_;iterate 3 refine ah ?_
        refine aI (ak au) (by(have h:=T.out;go_simp;try omega)) ?_;iterate 3 refine ah ?_
        refine aI (ak aB) (by(have h:=E.out;go_simp;try omega)) ?_;iterate 2 refine ah ?_
        refine an ?_;go_step;refine ag ?_;iterate 2 refine ah ?_
        refine an ?_;go_step;refine ag ?_;refine ah ?_;refine pad _ 1 (((s+1+1:Nat):Int) -1) ?_;refine ah ?_;refine an ?_;go_wp2_with fail;go_roundw;case rel=>exact⟨_,_,ae,aa,congrArg _ ae,hid (uL.bad I j),a.pick [0]⟩
        case measure=>grind[cd]
       .have E:=hid D;clear D;go_step;refine ag ?_;iterate 2 refine ah ?_
        refine pl a 0 1 ?_ (hv:=jh);refine aI (ak aB) (by(have h:=b.out;go_simp;try omega)) ?_;refine ah ?_;refine bq a 0 (a1 o n g1 g2 (ad A ms.length c)) ?_ (hv:=(ee _)) (hk:=by omega) (hz:=(by rw[cN];rfl));refine ah ?_;refine a6 (p _ a.only) ?_;rintro e e8 ⟨rfl,g⟩;replace a:=a.aH g;refine ba ?_;refine aI (ak aB) (by(have h:=f.out;go_simp;try omega)) ?_;iterate 3 refine ah ?_
        refine aI (ak au) (by(have h:=T.out;go_simp;try omega)) ?_;iterate 3 refine ah ?_
        refine aI (ak au) (by(have h:=E.out;go_simp;try omega)) ?_;iterate 2 refine ah ?_
        refine an ?_;go_step;refine ag ?_;refine ah ?_;refine pad _ 1 (((s+1+1:Nat):Int) -1) ?_;refine ah ?_;refine an ?_;go_wp2_with fail;go_roundw;case rel=>exact⟨_,d,ae,aa,congrArg _ ae,hid (uL.bad en j),a.pick [0]⟩
        case measure=>grind[cd]
     .have f:=hid l;have j:aE (oz n ms _=au):=hid (by unfold oz;rw[v,x];simp[f.out]);clear l;go_step;refine ag ?_;iterate 2 refine ah ?_
      refine pl a 0 1 ?_ (hv:=jh);refine aI (ak aB) (by(have h:=b.out;go_simp;try omega)) ?_;refine ah ?_;refine bq a 0 (a1 o n g1 g2 (ad A ms.length c)) ?_ (hv:=(ee _)) (hk:=by omega) (hz:=(by rw[cN];rfl));refine ah ?_;refine a6 (p _ a.only) ?_;rintro e hR ⟨rfl,g⟩;replace a:=a.aH g;refine ba ?_;refine aI (ak au) (by(have h:=f.out;go_simp;try omega)) ?_;iterate 2 refine ah ?_
      iterate 7 refine ps ?_
      refine ah ?_;refine an ?_;go_step;refine ag ?_;refine ah ?_;refine pad _ 1 (((s+1+1:Nat):Int) -1) ?_;refine ah ?_;refine an ?_;go_wp2_with fail;go_roundw;case rel=>exact⟨_,d,ae,aa,congrArg _ ae,hid (r.out.oA j),a.pick [0]⟩
      case measure=>grind[cd]
    .have b:=hid k;have j:aE (oz n ms _=au):=hid (by unfold oz;rw[v];simp[b.out]);clear k;go_step;refine ag ?_;iterate 2 refine ah ?_
     refine pl a 0 1 ?_ (hv:=jh);refine aI (ak au) (by(have h:=b.out;go_simp;try omega)) ?_;refine ah ?_;iterate 4 refine ps ?_
     iterate 2 refine ah ?_
     iterate 7 refine ps ?_
     refine ah ?_;refine an ?_;go_step;refine ag ?_;refine ah ?_;refine pad _ 1 (((s+1+1:Nat):Int) -1) ?_;refine ah ?_;refine an ?_;go_wp2_with fail;go_roundw;case rel=>exact⟨_,d,ae,aa,congrArg _ ae,hid (r.out.oA j),a.pick [0]⟩
     case measure=>grind[cd]
  .have cI:¬((t:Int) -1)<(ms.length:Int):=ae;obtain rfl:t=ms.length+1:=ae;go_step;refine ag ?_;iterate 2 refine ah ?_
   refine pl a 0 66 ?_ (hv:=eS);refine ah ?_;refine cb (ak au) ?_;refine an ?_;go_step;refine ag ?_;iterate 2 refine ah ?_
   refine an ?_;go_wp2_with fail;go_ret;exact⟨d,aa,r,a.only⟩
end
section
attribute [local irreducible] wpList c9
def aeV{o n m}(h:CP o n m=0):hX m/\(m.k=1->m.fr+m.n<=o)/\m.to+cS m<=n:=by grind[CP,YD]
def TF{a b}:(0<(kM a b).2)↔meets a b=true:=by grind[kM,meets]
def rN(ms:List bG):Bool:=ms.all (λm=>decide (m.data.length<=300))&&decide (ms.length<=40)
set_option maxHeartbeats 16000000 in
def atx(o n)(g1 g2)A c ms w(hl:cC w A ms)(fl:ms.length<=1048576)(ho:∀m∈ms,r1 m):
 aD ax 161 #[dC o n g1 g2 (ad A ms.length c)] w λe w'=>∃bB,(∃Yb,e=aA (bg #[J R bB,J R Yb]))/\(bB=0↔om o n ms)/\aq w w':=by
 have cv:=hid hl;have du:=hid ho;have O:aE (∀W,aD _ _ _ W λe w'=>e=aA _/\aq W w'):=hid (λW=>(Iw W).mono λ_ _ ⟨h1,Y⟩=>⟨h1,Y▸ar.refl _ _⟩);have x3:aE (∀W m F I,m∈ms->aD _ _ #[dC o n g1 g2 _,av _] W λe w'=>e=aA _/\aq W w'):=hid (λW m F I k=>auf o n g1 g2 (ad A ms.length c) aa m F I W (ho m k));have aiR:=hid (λW hg hv=>at0 o n g1 g2 A c ms W (hl.aH hg) fl hv);clear hl ho;by_cases h1:o<0
 .have G:=hid h1;go_enter JJ,JM;have d:=bf w;go_step;refine ag ?_;refine bM d (av _) (λC w1 d=>?_);refine v2 ?_;refine an ?_;go_step;refine ct ?_;refine bN d [] (λ_ _=>aY) (λ_ _=>emp) (λ_=>[]) (λ|1=>[0]|_=>[]) (λ_=>[]) [0] (λB=>?_);refine aK ?_;refine dl 0 0 ?_ (hv:=mA);refine aL (ak aB) (λ_ _ _=>by(have h:=G.out;go_simp;try omega)) ?_;refine aK ?_;iterate 3 refine ds ?_
  refine bp ?_;iterate 4 refine ds ?_
  refine bp ?_;iterate 4 refine ds ?_
  refine aK ?_;refine bQ λaR d=>?_;go_step;refine ag ?_;refine v2 ?_;refine an ?_;go_wp2_with fail;go_ret2;exact⟨2,⟨-1,aa⟩,⟨λh=>absurd h bh,λh=>absurd h.bd ae⟩,d.only⟩
 .have G:=hid h1;by_cases Y:n<0
  .have L:=hid Y;go_enter JJ,JM;have d:=bf w;go_step;refine ag ?_;refine bM d (av _) (λC bL d=>?_);refine v2 ?_;refine an ?_;go_step;refine ct ?_;refine bN d [] (λ_ _=>aY) (λ_ _=>emp) (λ_=>[]) (λ|1=>[0]|5=>[0]|_=>[]) (λ_=>[]) [0] (λB=>?_);refine aK ?_;refine dl 0 0 ?_ (hv:=mA);refine aL (ak au) (λ_ _ _=>by(have h:=G.out;go_simp;try omega)) ?_;refine bp ?_;refine dl 0 1 ?_ (hv:=jh);refine aL (ak aB) (λ_ _ _=>by(have h:=L.out;go_simp;try omega)) ?_;refine bp ?_;iterate 4 refine ds ?_
   refine bp ?_;iterate 4 refine ds ?_
   refine aK ?_;refine bQ λca d=>?_;go_step;refine ag ?_;refine v2 ?_;refine an ?_;go_wp2_with fail;go_ret2;exact⟨2,⟨-1,aa⟩,⟨λh=>absurd h bh,λh=>absurd h.bd ae⟩,d.only⟩
  .have L:=hid Y;by_cases h3:o>4611686018427387903
   .have V:=hid h3;go_enter JJ,JM;have d:=bf w;go_step;refine ag ?_;refine bM d (av _) (λC cF d=>?_);refine v2 ?_;refine an ?_;go_step;refine ct ?_;refine bN d [11] (λi _=>match i with|11=>J R 4611686018427387903|_=>aY) (λ_ _=>emp) (λ_=>[]) (λ|1=>[0]|5=>[0]|10=>[0]|_=>[]) (λ_=>[]) [0,12] (λB=>?_);refine aK ?_;refine dl 0 0 ?_ (hv:=mA);refine aL (ak au) (λ_ _ _=>by(have h:=G.out;go_simp;try omega)) ?_;refine bp ?_;refine dl 0 1 ?_ (hv:=jh);refine aL (ak au) (λ_ _ _=>by(have h:=L.out;go_simp;try omega)) ?_;refine c7 ?_;refine dl 0 0 ?_ (hv:=mA);refine df (λf Fr d=>(O f).mono ?_) ?_;·rintro e p ⟨rfl,g⟩;exact⟨{},aa,(d.aH g).dS⟩
    refine aL (ak aB) (λ_ _ _=>by(have h:=V.out;go_simp;try omega)) ?_;refine bp ?_;iterate 4 refine ds ?_
    refine aK ?_;refine bQ λc6 d=>?_;replace d:=d.drop 1;go_step;refine ag ?_;refine v2 ?_;refine an ?_;go_wp2_with fail;go_ret2;exact⟨2,⟨-1,aa⟩,⟨λh=>absurd h bh,λh=>absurd h.bd ae⟩,d.only⟩
   .have V:=hid h3;by_cases h4:n>4611686018427387903
    .have hU:=hid h4;go_enter JJ,JM;have d:=bf w;go_step;refine ag ?_;refine bM d (av _) (λC dW d=>?_);refine v2 ?_;refine an ?_;go_step;refine ct ?_;refine bN d [11,17] (λi _=>match i with|11=>J R 4611686018427387903|17=>J R 4611686018427387903|_=>aY) (λ_ _=>emp) (λ_=>[]) (λ|1=>[0]|5=>[0]|10=>[0]|16=>[0]|_=>[]) (λ_=>[]) [0,12,18] (λB=>?_);refine aK ?_;refine dl 0 0 ?_ (hv:=mA);refine aL (ak au) (λ_ _ _=>by(have h:=G.out;go_simp;try omega)) ?_;refine bp ?_;refine dl 0 1 ?_ (hv:=jh);refine aL (ak au) (λ_ _ _=>by(have h:=L.out;go_simp;try omega)) ?_;refine c7 ?_;refine dl 0 0 ?_ (hv:=mA);refine df (λf Fr d=>(O f).mono ?_) ?_;·rintro e p ⟨rfl,g⟩;exact⟨{},aa,(d.aH g).dS⟩
     refine aL (ak au) (λ_ _ _=>by(have h:=V.out;go_simp;try omega)) ?_;refine c7 ?_;refine dl 0 1 ?_ (hv:=jh);refine df (λf Fr d=>(O f).mono ?_) ?_;·rintro e p ⟨rfl,g⟩;exact⟨{},aa,(d.aH g).dS⟩
     refine aL (ak aB) (λ_ _ _=>by(have h:=hU.out;go_simp;try omega)) ?_;refine aK ?_;refine bQ λdG d=>?_;replace d:=d.drop 1;replace d:=d.drop 1;go_step;refine ag ?_;refine v2 ?_;refine an ?_;go_wp2_with fail;go_ret2;exact⟨2,⟨-1,aa⟩,⟨λh=>absurd h bh,λh=>absurd h.bd ae⟩,d.only⟩
    .have hU:=hid h4;go_enter JJ,JM;have d:=bf w;go_step;refine ag ?_;refine bM d (av _) (λC e8 d=>?_);refine v2 ?_;refine an ?_;go_step;refine ct ?_;refine bN d [11,17] (λi _=>match i with|11=>J R 4611686018427387903|17=>J R 4611686018427387903|_=>aY) (λ_ _=>emp) (λ_=>[]) (λ|1=>[0]|5=>[0]|10=>[0]|16=>[0]|_=>[]) (λ_=>[]) [0,12,18] (λB=>?_);refine aK ?_;refine dl 0 0 ?_ (hv:=mA);refine aL (ak au) (λ_ _ _=>by(have h:=G.out;go_simp;try omega)) ?_;refine bp ?_;refine dl 0 1 ?_ (hv:=jh);refine aL (ak au) (λ_ _ _=>by(have h:=L.out;go_simp;try omega)) ?_;refine c7 ?_;refine dl 0 0 ?_ (hv:=mA);refine df (λf Fr d=>(O f).mono ?_) ?_;·rintro e p ⟨rfl,g⟩;exact⟨{},aa,(d.aH g).dS⟩
     refine aL (ak au) (λ_ _ _=>by(have h:=V.out;go_simp;try omega)) ?_;refine c7 ?_;refine dl 0 1 ?_ (hv:=jh);refine df (λf Fr d=>(O f).mono ?_) ?_;·rintro e p ⟨rfl,g⟩;exact⟨{},aa,(d.aH g).dS⟩
     refine aL (ak au) (λ_ _ _=>by(have h:=hU.out;go_simp;try omega)) ?_;refine aK ?_;refine bQ λhR d=>?_;replace d:=d.drop 1;replace d:=d.drop 1;go_step;refine ag ?_;refine ah ?_;refine an ?_;have u:=d.pk [0];go_wp2_with fail;go_loopw [4] (λE wr=>∃j:Nat,j<=ms.length/\E=J R (j:Int)/\aE (∀(i:Nat) (x:bG),i<j->ms[i]?=ab x->CP o n x=0)/\aj w (λ_=>False) wr [ai C (a1 o n g1 g2 (ad A ms.length c)) 26]) (λE wr=>ms.length -(cd E).toNat);case atStart=>exact⟨0,cQ _,aa,hid (λi x h=>absurd h (Bv _)),u⟩
     case round=>
      clear d u;obtain⟨j,hj,rfl,oa,d⟩:=hrel;by_cases hlt:j<ms.length
      .have cI:(j:Int)<(ms.length:Int):=ae;obtain⟨m,k⟩:∃m,ms[j]?=ab m:=⟨_,cj hlt⟩;obtain⟨r,U,F,I,P,Q,S⟩:=cC.h9 cv k;have M:=hid P;have gR:=hid Q;have N:=hid S;have D:=hid k;clear P Q S k;obtain⟨z,hz⟩:=ex (CP o n m);have ff:=hid hz;have Xn:aE (∀W,aD _ _ _ W λe w'=>e=aA (J _ z)/\aq W w'):=hid (λW=>by rw[<-hz];exact x3 W m F I (cL D));clear hz;go_step;refine ag ?_;refine v2 ?_;refine pl d 0 66 ?_ (hv:=eS);refine ah ?_;refine cb (ak aB) ?_;refine an ?_;by_cases hz0:z=0
       .subst hz0;go_step;refine ct ?_;refine bN d [6] (λi _=>match i with|6=>J R 0|_=>aY) (λ_ _=>emp) (λ_=>[]) (λ|0=>[0]|2=>[0]|_=>[]) (λ_=>[]) [0,7] (λB=>?_);refine ea 0 (a1 o n g1 g2 (ad A ms.length c)) ?_ (hv:=(ee _)) (hk:=by omega) (hz:=(by rw[cN];rfl));refine aK ?_;refine dl 0 66 ?_ (hv:=eS);refine aK ?_;refine aL _ (λ_ _ _=>cH 24 73 5 _ _ aa eA aw r U _ c j _ (by show ad A _ _=_;rw[M]) aa hlt aa) ?_;refine aL _ (λ_ _ d=>by(refine e6 73 _ aa r _ aa _ (N _ d.only) fW aa aw)) ?_;refine df (λf Fr d=>(Xn f).mono ?_) ?_;·rintro e p ⟨rfl,g⟩;exact⟨{},aa,(d.aH g).dS⟩
        refine aK ?_;refine bQ λiZ d=>?_;replace d:=d.drop 1;go_step;refine ag ?_;refine ah ?_;refine pk (ak au) ?_;refine an ?_;go_step;refine ag ?_;refine ah ?_;refine pad _ 1 ((j+1:Nat):Int) ?_;refine ah ?_;refine an ?_;go_wp2_with fail;go_roundw;case rel=>exact⟨j+1,ae,aa,hid (λi y hi l=>by rcases wP.1 hi with h|rfl;exact oa i y h l;rw[D]at l;cases l;exact ff),d.pick [0]⟩
        case measure=>grind[cd]
       .have Qh:=hid hz0;go_step;refine ct ?_;refine bN d [6] (λi _=>match i with|6=>J R z|_=>aY) (λ_ _=>emp) (λ_=>[]) (λ|0=>[0]|2=>[0]|_=>[]) (λ_=>[]) [0,7] (λB=>?_);refine ea 0 (a1 o n g1 g2 (ad A ms.length c)) ?_ (hv:=(ee _)) (hk:=by omega) (hz:=(by rw[cN];rfl));refine aK ?_;refine dl 0 66 ?_ (hv:=eS);refine aK ?_;refine aL _ (λ_ _ _=>cH 24 73 5 _ _ aa eA aw r U _ c j _ (by show ad A _ _=_;rw[M]) aa hlt aa) ?_;refine aL _ (λ_ _ d=>by(refine e6 73 _ aa r _ aa _ (N _ d.only) fW aa aw)) ?_;refine df (λf Fr d=>(Xn f).mono ?_) ?_;·rintro e p ⟨rfl,g⟩;exact⟨{},aa,(d.aH g).dS⟩
        refine aK ?_;refine bQ λks d=>?_;replace d:=d.drop 1;go_step;refine ag ?_;refine ah ?_;refine dr Qh (ak aB) ?_;refine an ?_;go_step;refine ag ?_;refine v4 ?_;refine an ?_;go_wp2_with fail;go_ret2;exact⟨z,⟨_,aa⟩,⟨λh=>absurd h Qh,λh=>absurd (h.bC m (cL D)) (by rw[ff];exact Qh)⟩,d.only⟩
      .have cI:¬(j:Int)<(ms.length:Int):=ae;obtain rfl:j=ms.length:=ae;have Xl:=hid (λm k=>by obtain⟨i,hi⟩:=oU.1 k;exact oa i m (eQ.1 hi).1 hi);have Qc:=hid (λm k=>(aeV (Xl m k)).1);go_step;refine ag ?_;refine v2 ?_;refine pl d 0 66 ?_ (hv:=eS);refine ah ?_;refine cb (ak au) ?_;refine an ?_;go_step;refine ag ?_;refine ah ?_;refine an ?_;have u:=d;go_wp2_with fail;go_loopw [6] (λE wr=>∃i:Nat,i<=ms.length/\E=J R (i:Int)/\aE (∀(a b:Nat) (x y:bG),b<a->a<i->ms[a]?=ab x->ms[b]?=ab y->meets (b8 x) (b8 y)=au)/\aj w (λ_=>False) wr [ai C (a1 o n g1 g2 (ad A ms.length c)) 26]) (λE wr=>ms.length -(cd E).toNat);case atStart=>exact⟨0,cQ _,aa,hid (λa b x y _ h=>absurd h (Bv _)),u⟩
       case round=>
        clear d u;obtain⟨i,hi,rfl,so,d⟩:=hrel;by_cases hlt:i<ms.length
        .have cI:(i:Int)<(ms.length:Int):=ae;obtain⟨m,k⟩:∃m,ms[i]?=ab m:=⟨_,cj hlt⟩;obtain⟨r,U,F,I,P,Q,S⟩:=cC.h9 cv k;have M:=hid P;have gR:=hid Q;have N:=hid S;have D:=hid k;clear P Q S k;go_step;refine ag ?_;refine v2 ?_;refine pl d 0 66 ?_ (hv:=eS);refine ah ?_;refine cb (ak aB) ?_;refine an ?_;go_step;refine ag ?_;refine ah ?_;refine an ?_;have u:=d;go_wp2_with fail;go_loopw [7] (λg' wr=>∃j:Nat,j<=i/\g'=J R (j:Int)/\aE (∀(b:Nat) (y:bG),b<j->ms[b]?=ab y->meets (b8 m) (b8 y)=au)/\aj w (λ_=>False) wr [ai C (a1 o n g1 g2 (ad A ms.length c)) 26]) (λg' wr=>i -(cd g').toNat);case atStart=>exact⟨0,cQ _,aa,hid (λb y h=>absurd h (Bv _)),u⟩
         case round=>
          clear d u;obtain⟨j,hj,rfl,WN,d⟩:=hrel;by_cases vE:j<i
          .have Sl:(j:Int)<(i:Int):=ae;have Sk:j<ms.length:=ae;obtain⟨y,l⟩:∃y,ms[j]?=ab y:=⟨_,cj Sk⟩;obtain⟨X,o8,xJ,l7,Hn,_,sQ⟩:=cC.h9 cv.out l;have Gb:=hid Hn;have Gg:=hid sQ;have na:=hid l;have Mc:=(Qc m (cL D)).CW;have Ik:=(Qc y (cL l)).CW;obtain⟨fa,v,T⟩:∃a b,kM (b8 m) (b8 y)=(a,b):=⟨_,_,aa⟩;have H:aE (∀W,aD _ _ _ W λe w'=>e=aA (av #[J _ fa,J _ v])/\aq W w'):=hid (λW=>by have q:=aej _ _ _ _ W Mc Ik;rw[show kM (m.to,cS m) (y.to,cS y)=(fa,v)from T]at q;exact q);have Xa:aE ((0<v)↔meets _ _=aB):=hid (by have q:=TF (a:=b8 m) (b:=b8 y);rw[T]at q;exact q);have DF:=hid (λW=>Fw m F I W);have Bl:=hid (λW=>Fw y xJ l7 W);clear l Hn sQ Mc Ik T;obtain⟨t1,L8⟩:=ex (cS m);obtain⟨t2,abG⟩:=ex (cS y);rw[L8]at H DF;rw[abG]at H Bl;clear L8 abG;go_step;refine ag ?_;refine v2 ?_;refine cb (ak aB) ?_;refine an ?_;by_cases K:0<v
           .have bI:=hid K;have PU:=hid (Xa.1 K);clear K;go_step;refine ct ?_;refine bN d [5,11,12] (λi _=>match i with|5=>av #[J R m.to,J R t1]|11=>av #[J R y.to,J R t2]|12=>av #[J R fa,J R v]|_=>aY) (λ_ _=>emp) (λ_=>[]) (λ|1=>[0]|7=>[0]|_=>[]) (λ_=>[]) [0,6,12,13] (λB=>?_);refine aK ?_;refine dl 0 66 ?_ (hv:=eS);refine aK ?_;refine aL _ (λ_ _ _=>cH 24 73 5 _ _ aa eA aw r U _ c i _ (by show ad A _ _=_;rw[M]) aa hlt aa) ?_;refine aL _ (λ_ _ d=>by(refine e6 73 _ aa r _ aa _ (N _ d.only) fW aa aw)) ?_;refine df (λf Fr d=>(DF f).mono ?_) ?_;·rintro e p ⟨rfl,g⟩;exact⟨{},aa,(d.aH g).dS⟩
            refine aK ?_;refine dl 0 66 ?_ (hv:=eS);refine aK ?_;refine aL _ (λ_ _ _=>cH 24 73 5 _ _ aa eA aw X o8 _ c j _ (by show ad A _ _=_;rw[Gb]) aa Sk aa) ?_;refine aL _ (λ_ _ d=>e6 73 (bb 68) aa X (o8+j*5) aa _ (Gg _ d.only) fW aa aw) ?_;refine df (λf Fr d=>(Bl f).mono ?_) ?_;·rintro e p ⟨rfl,g⟩;exact⟨{},aa,(d.aH g).dS⟩
            refine df (λf Fr d=>(H f).mono ?_) ?_;·rintro e p ⟨rfl,g⟩;exact⟨{},aa,(d.aH g).dS⟩
            refine gB (J R v) ?_;refine aL (ak aB) (λ_ _ _=>by(have h:=bI.out;go_simp;try omega)) ?_;refine bQ λlf d=>?_;replace d:=d.drop 1;replace d:=d.drop 1;replace d:=d.drop 1;go_step;refine ag ?_;refine v3 ?_;refine an ?_;go_wp2_with fail;go_ret2;exact⟨4,⟨_,aa⟩,⟨λh=>absurd h bh,λh=>absurd (h.ap i j m y vE D na) (by rw[PU];decide)⟩,d.only⟩
           .have bI:=hid K;have PU:aE (meets _ _=au):=hid (by cases hq:meets (b8 m) (b8 y)with|false=>rfl|true=>exact absurd (Xa.2 hq) K);clear K;go_step;refine ct ?_;refine bN d [5,11,12] (λi _=>match i with|5=>av #[J R m.to,J R t1]|11=>av #[J R y.to,J R t2]|12=>av #[J R fa,J R v]|_=>aY) (λ_ _=>emp) (λ_=>[]) (λ|1=>[0]|7=>[0]|_=>[]) (λ_=>[]) [0,6,12,13] (λB=>?_);refine aK ?_;refine dl 0 66 ?_ (hv:=eS);refine aK ?_;refine aL _ (λ_ _ _=>cH 24 73 5 _ _ aa eA aw r U _ c i _ (by show ad A _ _=_;rw[M]) aa hlt aa) ?_;refine aL _ (λ_ _ d=>by(refine e6 73 _ aa r _ aa _ (N _ d.only) fW aa aw)) ?_;refine df (λf Fr d=>(DF f).mono ?_) ?_;·rintro e p ⟨rfl,g⟩;exact⟨{},aa,(d.aH g).dS⟩
            refine aK ?_;refine dl 0 66 ?_ (hv:=eS);refine aK ?_;refine aL _ (λ_ _ _=>cH 24 73 5 _ _ aa eA aw X o8 _ c j _ (by show ad A _ _=_;rw[Gb]) aa Sk aa) ?_;refine aL _ (λ_ _ d=>e6 73 (bb 68) aa X (o8+j*5) aa _ (Gg _ d.only) fW aa aw) ?_;refine df (λf Fr d=>(Bl f).mono ?_) ?_;·rintro e p ⟨rfl,g⟩;exact⟨{},aa,(d.aH g).dS⟩
            refine df (λf Fr d=>(H f).mono ?_) ?_;·rintro e p ⟨rfl,g⟩;exact⟨{},aa,(d.aH g).dS⟩
            refine gB (J R v) ?_;refine aL (ak au) (λ_ _ _=>by(have h:=bI.out;go_simp;try omega)) ?_;refine bQ λmm d=>?_;replace d:=d.drop 1;replace d:=d.drop 1;replace d:=d.drop 1;go_step;refine ag ?_;refine ah ?_;refine pad _ 1 ((j+1:Nat):Int) ?_;refine ah ?_;refine an ?_;go_wp2_with fail;go_roundw;case rel=>exact⟨j+1,ae,aa,hid (λb x hb hx=>by rcases wP.1 hb with h|rfl;exact WN b x h hx;rw[na]at hx;cases hx;exact PU),d.pick [0]⟩
            case measure=>simp[cd]<;>omega
          .have Sl:¬(j:Int)<(i:Int):=ae;obtain rfl:j=i:=ae;go_step;refine ag ?_;refine v2 ?_;refine cb (ak au) ?_;refine an ?_;go_step;refine ag ?_;refine ah ?_;refine pad _ 1 ((j+1:Nat):Int) ?_;refine ah ?_;refine an ?_;go_wp2_with fail;go_roundw;case rel=>exact⟨j+1,ae,aa,hid (λa b x y Z ha hx l=>by rcases wP.1 ha with h|rfl;exact so a b x y Z h hx l;rw[D]at hx;cases hx;exact WN b y Z l),d.pick [0]⟩
           case measure=>simp[cd]<;>omega
        .have cI:¬(i:Int)<(ms.length:Int):=ae;obtain rfl:i=ms.length:=ae;go_step;refine ag ?_;refine v2 ?_;refine pl d 0 66 ?_ (hv:=eS);refine ah ?_;refine cb (ak au) ?_;refine an ?_;go_step;refine ag ?_;refine bq d 0 (a1 o n g1 g2 (ad A ms.length c)) ?_ (hv:=(ee _)) (hk:=by omega) (hz:=(by rw[cN];rfl));refine a6 (aiR _ d.only Qc) ?_;rintro e nX ⟨ei,rfl,aaI,g⟩;replace d:=d.aH g;refine ba ?_;refine ah ?_;refine an ?_;rcases aaI with⟨rfl,hb⟩|⟨T,s,hs,hb⟩;·have HB:=hid hb;clear hb;go_step;refine ag ?_;refine ah ?_;refine pk (ak au) ?_;refine an ?_;go_step;refine ag ?_;refine v2 ?_;refine an ?_;go_wp2_with fail;go_ret2;exact⟨0,⟨_,aa⟩,⟨λ_=>⟨⟨⟨ae,ae⟩,ae,ae⟩,Xl,λa b x y Z hx l=>so a b x y Z (eQ.1 hx).1 hx l,λt ht=>HB t ae⟩,λ_=>aa⟩,d.only⟩
         .have HB:=hid hb;have H:=hid T;clear hb;go_step;refine ag ?_;refine ah ?_;refine aI (ak aB) (by(have h:=H.out;go_simp;try omega)) ?_;refine an ?_;go_step;refine ag ?_;refine v3 ?_;refine an ?_;go_wp2_with fail;go_ret2;exact⟨3,⟨_,aa⟩,⟨λh=>absurd h bh,λh=>absurd (h.ZJ s ae) (by rw[HB];decide)⟩,d.only⟩
end
section
attribute [local irreducible] wpList c9
def aeu(o n)(g1 g2)A c ms w(f:cC w A ms)(l:ms.length<=1048576)(i:∀m∈ms,r1 m)b(hb:b=aB↔om o n ms):
 aD ax 75 #[dC o n g1 g2 (ad A ms.length c)] w λe w'=>e=aA (ak b)/\aq w w':=by
 have j:=hid (λW g=>atx o n g1 g2 A c ms W (f.aH g) l i);have d:=hid hb;clear f i hb;go_enter func75,ntmps75;have a:=bf w;go_step;refine ag ?_;refine bM a (av _) (λp w1 a=>?_);refine dQ ?_;refine bq a 0 (a1 o n g1 g2 (ad A ms.length c)) ?_ (hv:=(ee _)) (hk:=by omega) (hz:=(by rw[cN];rfl));refine a6 (j _ a.only) ?_;rintro e r ⟨bB,⟨q,rfl⟩,hv,g⟩;replace a:=a.aH g;refine ba ?_;refine v5 ?_;refine an ?_
 have k:aE ((bB==0)=b):=hid (by cases b with
  |true=>exact beq_iff_eq.2 (hv.2 (d.1 aa))
  |false=>exact beq_eq_false_iff_ne.2 (λh=>by have:=d.2 (hv.1 h);cases this));clear hv;refine b4 ?_;refine dr k (ak b) ?_;refine bP ?_;go_wp2_with fail;go_ret;exact⟨aa,a.only⟩
def aed(o n)(g1 g2)A c ms w(E:cC w A ms)(P:ms.length<=1048576):
 aD ax 74 #[dC o n g1 g2 (ad A ms.length c)] w λe w'=>e=aA (ak (rN ms))/\aq w w':=by
 have G:=hid E;clear E;go_enter func74,ntmps74;have a:=bf w;go_step;refine ag ?_;refine bM a (av _) (λF w1 a=>?_);refine ah ?_;refine ag ?_;refine ah ?_;refine an ?_;have z:=a;go_wp2_with fail;go_loopw [3] (λp wr=>∃j:Nat,j<=ms.length/\p=J R (j:Int)/\aE (∀(i:Nat) (x:bG),i<j->ms[i]?=ab x->x.data.length<=300)/\aj w (λ_=>False) wr [ai F (a1 o n g1 g2 (ad A ms.length c)) 26]) (λp wr=>ms.length -(cd p).toNat);case atStart=>exact⟨0,cQ _,aa,hid (λi x h=>absurd h (Bv _)),z⟩
 case round=>
  clear a z;obtain⟨j,O,rfl,s,a⟩:=hrel;by_cases hlt:j<ms.length
  .have I:(j:Int)<(ms.length:Int):=ae;obtain⟨m,d⟩:∃m,ms[j]?=ab m:=⟨_,cj hlt⟩;obtain⟨M,Q,K,N,B,C,D⟩:=cC.h9 G d;have q:=hid B;have L:=hid C;have t:=hid D;have v:=hid d;clear B C D d;go_step;refine ag ?_;refine v2 ?_;refine pl a 0 66 ?_ (hv:=eS);refine ah ?_;refine cb (ak aB) ?_;refine an ?_;by_cases f:m.data.length>300;·have b:(m.data.length:Int)>300:=ae;have g:=hid b;have k:=hid f;clear f b;refine b4 ?_;refine pl a 0 66 ?_ (hv:=eS);refine ah ?_;refine aI _ (cH 24 73 5 _ _ aa eA aw _ _ _ _ _ _ (by show ad A _ _=_;rw[q]) aa hlt aa) ?_;refine ah ?_;refine aI _ (nr aa aa (t _ a.only 4 _ aa) aw) ?_;refine ah ?_;refine aI (ak aB) (by(have h:=g.out;go_simp;try omega)) ?_;refine ag ?_;refine ah ?_;refine an ?_;go_wp2_with fail;go_ret;exact⟨by rw[show rN ms=au from by unfold rN;rw[show ms.all (λm=>decide _)=au from List.all_eq_false.2 ⟨m,cL v,by have:=k.out;simp;omega⟩];rfl];rfl,a.only⟩
   .have b:¬(m.data.length:Int)>300:=ae;have g:=hid b;have k:=hid f;clear f b;refine b4 ?_;refine pl a 0 66 ?_ (hv:=eS);refine ah ?_;refine aI _ (cH 24 73 5 _ _ aa eA aw _ _ _ _ _ _ (by show ad A _ _=_;rw[q]) aa hlt aa) ?_;refine ah ?_;refine aI _ (nr aa aa (t _ a.only 4 _ aa) aw) ?_;refine ah ?_;refine aI (ak au) (by(have h:=g.out;go_simp;try omega)) ?_;refine b4 ?_;refine pad (j:Int) 1 ((j+1:Nat):Int) ?_;refine bP ?_;go_wp2_with fail;go_roundw;case rel=>exact⟨j+1,ae,aa,hid (λi y hi l=>by rcases wP.1 hi with h|rfl;exact s i y h l;rw[v]at l;cases l;have:=k.out;omega),a.pick [0]⟩
    case measure=>simp[cd]<;>omega
  .have I:¬(j:Int)<(ms.length:Int):=ae;obtain rfl:j=ms.length:=ae;have u:aE (rN ms=decide ((ms.length:Int)<=40)):=hid (by unfold rN;rw[show ms.all (λm=>decide _)=aB from DK.2 (λm d=>by obtain⟨i,hi⟩:=oU.1 d;exact decide_eq_true (s i m (eQ.1 hi).1 hi)),Ju];congr 1;rw[eq_iff_iff];omega);obtain⟨r,hr⟩:=ex (decide ((ms.length:Int)<=40));have H:=hid hr;rw[hr]at u;clear hr;go_step;refine ag ?_;refine v2 ?_;refine pl a 0 66 ?_ (hv:=eS);refine ah ?_;refine cb (ak au) ?_;refine b4 ?_;refine pl a 0 66 ?_ (hv:=eS);refine ah ?_;refine dr H (ak r) ?_;refine bP ?_;go_wp2_with fail;go_ret;exact⟨by rw[u];rfl,a.only⟩
def auh(o n)(g1 g2)A c ms w(l:cC w A ms)(q:ms.length<=1048576)(r:∀m∈ms,r1 m)b(hb:b=aB↔om o n ms):
 aD ax 73 #[dC o n g1 g2 (ad A ms.length c)] w λe w'=>e=aA (ak (rN ms&&decide (n<=1000)&&b))/\aq w w':=by
 obtain⟨f,k⟩:=ex (rN ms);have i:aE (∀W,aq w W->aD _ 74 _ W λe w'=>e=aA (ak f)/\aq W w'):=hid (λW g=>by rw[<-k];exact aed o n g1 g2 A c ms W (l.aH g) q);have s:=hid (λW g=>aeu o n g1 g2 A c ms W (l.aH g) q r b hb);rw[k];clear l r hb k;cases f with
 |false=>
  go_enter Tryz.func73,V2;have a:=bf w;go_step;refine ag ?_;refine bM a (av _) (λp w1 a=>?_);refine dQ ?_;refine bq a 0 (a1 o n g1 g2 (ad A ms.length c)) ?_ (hv:=(ee _)) (hk:=by omega) (hz:=(by rw[cN];rfl));refine bA (i _ a.only) a (λt a=>?_);refine ah ?_;iterate 3 refine ps ?_
  refine ah ?_;refine pk (ak au) ?_;iterate 2 refine ps ?_
  refine dP ?_;go_wp2_with fail;go_ret;exact⟨aa,a.only⟩
 |true=>
  by_cases d:n<=1000;·have j:=hid d;rw[show decide _=aB from decide_eq_true d];clear d;go_enter Tryz.func73,V2;have a:=bf w;go_step;refine ag ?_;refine bM a (av _) (λp u a=>?_);refine dQ ?_;refine bq a 0 (a1 o n g1 g2 (ad A ms.length c)) ?_ (hv:=(ee _)) (hk:=by omega) (hz:=(by rw[cN];rfl));refine bA (i _ a.only) a (λv a=>?_);refine v2 ?_;refine pl a 0 1 ?_ (hv:=jh);refine aI (ak aB) (by(have h:=j.out;go_simp;try omega)) ?_;refine v2 ?_;refine bq a 0 (a1 o n g1 g2 (ad A ms.length c)) ?_ (hv:=(ee _)) (hk:=by omega) (hz:=(by rw[cN];rfl));refine bA (s _ a.only) a (λx a=>?_);refine dP ?_;go_wp2_with fail;go_ret;exact⟨aa,a.only⟩
  .have j:=hid d;rw[show decide _=au from decide_eq_false d];clear d;go_enter Tryz.func73,V2;have a:=bf w;go_step;refine ag ?_;refine bM a (av _) (λp y a=>?_);refine dQ ?_;refine bq a 0 (a1 o n g1 g2 (ad A ms.length c)) ?_ (hv:=(ee _)) (hk:=by omega) (hz:=(by rw[cN];rfl));refine bA (i _ a.only) a (λz a=>?_);refine v2 ?_;refine pl a 0 1 ?_ (hv:=jh);refine aI (ak au) (by(have h:=j.out;go_simp;try omega)) ?_;refine v2 ?_;iterate 2 refine ps ?_
   refine dP ?_;go_wp2_with fail;go_ret;exact⟨aa,a.only⟩
def aug(o n)(g1 g2)A c ms w(k:cC w A ms)(l:∀m∈ms,r1 m)b(hb:b=aB↔om o n ms):
 aD ax 24 #[dC o n g1 g2 (ad A ms.length c)] w λe w'=>e=aA (ak (decide (ms.length<=20)&&(rN ms&&decide (n<=1000)&&b)))/\aq w w':=by
 obtain⟨f,d⟩:=ex ((rN ms&&decide (n<=1000)&&b));by_cases i:ms.length<=20;·have q:aE (∀W,aq w W->aD _ 73 _ W λe w'=>e=aA (ak f)/\aq W w'):=hid (λW g=>by rw[<-d];exact auh o n g1 g2 A c ms W (k.aH g) ae l b hb);rw[d];clear k l hb d;have hnz:(ms.length:Int)<=20:=ae;have j:=hid hnz;rw[show decide _=aB from decide_eq_true i];clear i hnz;go_enter Tryz.func24,Tryz.ntmps24;have a:=bf w;go_step;refine ag ?_;refine bM a (av _) (λp w1 a=>?_);refine cJ ?_;refine pl a 0 66 ?_ (hv:=eS);refine ah ?_;refine aI (ak aB) (by(have h:=j.out;go_simp;try omega)) ?_;refine ah ?_;refine bq a 0 (a1 o n g1 g2 (ad A ms.length c)) ?_ (hv:=(ee _)) (hk:=by omega) (hz:=(by rw[cN];rfl));refine bA (q _ a.only) a (λr a=>?_);refine dP ?_;go_wp2_with fail;go_ret;exact⟨aa,a.only⟩
 .rw[d];clear k l hb d;have hnz:¬(ms.length:Int)<=20:=ae;have j:=hid hnz;rw[show decide _=au from decide_eq_false i];clear i hnz;go_enter Tryz.func24,Tryz.ntmps24;have a:=bf w;go_step;refine ag ?_;refine bM a (av _) (λp s a=>?_);refine cJ ?_;refine pl a 0 66 ?_ (hv:=eS);refine ah ?_;refine aI (ak au) (by(have h:=j.out;go_simp;try omega)) ?_;refine ah ?_;iterate 2 refine ps ?_
  refine dP ?_;go_wp2_with fail;go_ret;exact⟨aa,a.only⟩
def atZ u(q bZ)(o n)(g1 g2)A c ms w(p:cC w A ms)(s:ms.length<=1048576)(t:∀m∈ms,r1 m)b(hb:b=aB↔om o n ms):
 aD ax 25 #[ad u q bZ,dC o n g1 g2 (ad A ms.length c)] w λe w'=>e=aA (ak (rN ms&&b&&decide (o=(q:Int))&&decide (n<=3000)))/\aq w w':=by
 obtain⟨f,l⟩:=ex (rN ms);have h:aE (∀W,aq w W->aD _ 74 _ W λe w'=>e=aA (ak f)/\aq W w'):=hid (λW g=>by rw[<-l];exact aed o n g1 g2 A c ms W (p.aH g) s);have k:=hid (λW g=>aeu o n g1 g2 A c ms W (p.aH g) s t b hb);rw[l];clear p t hb l;cases f with
 |false=>
  go_enter OQ,OW;have a:=bf w;go_step;refine ag ?_;refine bM a (av _) (λi w1 a=>?_);refine dQ ?_;refine bq a 0 (a1 o n g1 g2 (ad A ms.length c)) ?_ (hv:=(ee _)) (hk:=by omega) (hz:=(by rw[cN];rfl));refine bA (h _ a.only) a (λz a=>?_);refine ah ?_;iterate 2 refine ps ?_
  refine v2 ?_;iterate 5 refine ps ?_
  refine v2 ?_;iterate 3 refine ps ?_
  refine dP ?_;go_wp2_with fail;go_ret;exact⟨aa,a.only⟩
 |true=>
  cases b with
  |false=>
   go_enter OQ,OW;have a:=bf w;go_step;refine ag ?_;refine bM a (av _) (λi B a=>?_);refine dQ ?_;refine bq a 0 (a1 o n g1 g2 (ad A ms.length c)) ?_ (hv:=(ee _)) (hk:=by omega) (hz:=(by rw[cN];rfl));refine bA (h _ a.only) a (λC a=>?_);refine ah ?_;refine bq a 0 (a1 o n g1 g2 (ad A ms.length c)) ?_ (hv:=(ee _)) (hk:=by omega) (hz:=(by rw[cN];rfl));refine bA (k _ a.only) a (λD a=>?_);refine v2 ?_;iterate 5 refine ps ?_
   refine v2 ?_;iterate 3 refine ps ?_
   refine dP ?_;go_wp2_with fail;go_ret;exact⟨aa,a.only⟩
  |true=>
   by_cases d:o=(q:Int);·have j:=hid (beq_iff_eq.2 d);rw[show decide _=aB from decide_eq_true d];clear d;obtain⟨r,hr⟩:=ex (decide (n<=3000));have v:=hid hr;rw[hr];clear hr;go_enter OQ,OW;have a:=bf w;go_step;refine ag ?_;refine bM a (av _) (λi E a=>?_);refine dQ ?_;refine bq a 0 (a1 o n g1 g2 (ad A ms.length c)) ?_ (hv:=(ee _)) (hk:=by omega) (hz:=(by rw[cN];rfl));refine bA (h _ a.only) a (λF a=>?_);refine ah ?_;refine bq a 0 (a1 o n g1 g2 (ad A ms.length c)) ?_ (hv:=(ee _)) (hk:=by omega) (hz:=(by rw[cN];rfl));refine bA (k _ a.only) a (λG a=>?_);refine v3 ?_;refine pl a 0 0 ?_ (hv:=mA);refine v2 ?_;refine dr j (ak aB) ?_;refine v3 ?_;refine pl a 0 1 ?_ (hv:=jh);refine dr v (ak r) ?_;refine dP ?_;go_wp2_with fail;go_ret;exact⟨aa,a.only⟩
   .have j:=hid (beq_eq_false_iff_ne.2 d);rw[show decide _=au from decide_eq_false d];clear d;go_enter OQ,OW;have a:=bf w;go_step;refine ag ?_;refine bM a (av _) (λi H a=>?_);refine dQ ?_;refine bq a 0 (a1 o n g1 g2 (ad A ms.length c)) ?_ (hv:=(ee _)) (hk:=by omega) (hz:=(by rw[cN];rfl));refine bA (h _ a.only) a (λx a=>?_);refine ah ?_;refine bq a 0 (a1 o n g1 g2 (ad A ms.length c)) ?_ (hv:=(ee _)) (hk:=by omega) (hz:=(by rw[cN];rfl));refine bA (k _ a.only) a (λy a=>?_);refine v3 ?_;refine pl a 0 0 ?_ (hv:=mA);refine v2 ?_;refine dr j (ak au) ?_;refine v2 ?_;iterate 3 refine ps ?_
    refine dP ?_;go_wp2_with fail;go_ret;exact⟨aa,a.only⟩
end
section
attribute [local irreducible] wpList c9
def wV(old:List Int)(i:Int)(m:bG):Int:=if m.k=1 then old[(m.fr+i -m.to).toNat]?.getD 0 else m.data[(i -m.to).toNat]?.getD 0
def js(old:List Int)(ms:List bG)(i:Int):Int:=match ms.find? (λm=>hasB m i)with|some m=>wV old i m|none=>0
def nT(old:List Int)(ms:List bG)(n:Nat):List Int:=(dF n).map (λi:Nat=>js old ms (i:Int))
theorem atr old ms n:(nT old ms n).length=n:=by simp[nT]
theorem ats old ms n:nT old ms (n+1)=nT old ms n++[js old ms (n:Int)]:=by simp[nT,pE]
def anU{ms m x}(a:m∈ms)(hx:hasB m x=aB):∃j y,tZ ms x=((j:Nat):Int)/\ms[j]?=ab y/\hasB y x=aB/\∀old,js old ms x=wV old x y:=by
 unfold tZ js;cases h:ms.findIdx? (λm=>hasB m x)with
 |none=>grind
 |some j=>grind[List.findIdx?_eq_some_iff_getElem,List.find?_eq_some_iff_getElem]
def atv(E A)(bZ c n)o(g1 g2)old ms w(hold:bR w E old)(M:cC w A ms)(fl:ms.length<=1048576)(hM:old.length<=1048576)(hn:n<=1048576)(hv:∀m∈ms,hX m)(k1:∀m∈ms,m.k=1->m.fr+m.n<=(old.length:Int))(LF:∀i:Nat,i<n->∃m∈ms,hasB m (i:Int)=aB):
 aD ax 27 #[ad E old.length bZ,dC o (n:Int) g1 g2 (ad A ms.length c)] w λe w'=>∃S Z,e=aA (ad S n Z)/\b3 w w' (bn S n Z 5 1 ((nT old ms n).map a8)):=by
 have cv:=hid M;have Bj:=hid hold;have cA:=hid hv;have qq:=hid k1;have zw:=hid LF;have J6:=hid (λW off g=>aee o n g1 g2 A c ms off W (M.aH g) fl (λm x=>(hv m x).CW));clear M hold hv k1 LF;go_enter func27,ntmps27;have a:=bf w;go_step;refine ag ?_;refine bM a (av _) (λb6 w1 a=>?_);refine bP ?_;replace a:=a.new (bn af 0 0 5 1 []) ⟨ar.refl _ _,Row.nil _ _ _ _,λb ⟨_,_,e⟩=>aF⟩;refine ag ?_;refine ah ?_;refine ag ?_;refine ah ?_;refine an ?_;have Y:=a.pk [0,1];go_wp2_with fail;go_loopw [5,6] (λgD P wr=>∃(i:Nat) (aJ:Option bU) (c2:Nat),i<=n/\gD=ad aJ i c2/\P=J R (i:Int)/\aj w (λ_=>False) wr [bn aJ i c2 5 1 ((nT old ms i).map a8),ai b6 (a1 o (n:Int) g1 g2 (ad A ms.length c)) 26]) (λgD P wr=>n -(cd P).toNat);case atStart=>exact⟨0,_,0,cQ _,aa,aa,Y⟩
 case round=>
  clear a Y;obtain⟨i,aJ,c2,hi,rfl,rfl,a⟩:=hrel;by_cases hlt:i<n
  .have cI:(i:Int)<(n:Int):=ae;obtain⟨m0,yI,hx0⟩:=zw i hlt;obtain⟨j,d,aaG,r,aap,nj⟩:=anU yI hx0;have L:=(eQ.1 r).1;have V:=hid (λW g=>by have q:=J6 W (i:Int) g;rwa [aaG]at q);obtain⟨m,x⟩:∃m,ms[j]?=ab m:=⟨_,cj L⟩;obtain⟨C,D,F,K,bu,dM,cU⟩:=cC.h9 cv x;have T:=hid bu;have gR:=hid dM;have U:=hid cU;have bV:=hid x;clear bu dM cU x;obtain rfl:d=m:=by have h:=bV.out;rw[r]at h;cases h;rfl
   have X:aE (nT old ms (i+1)=nT old ms i++[wV old (i:Int) d]):=hid (by grind[ats]);have hb2:=of_decide_eq_true aap;have z:=cA d (cL r);clear yI hx0 aaG nj aap m0;go_step;refine ag ?_;refine v2 ?_;refine pl a 1 1 ?_ (hv:=jh);refine cb (ak aB) ?_;refine an ?_;by_cases hk:d.k=1
   .obtain⟨f1,f2,f3,_⟩:=z.copy hk;have hM:=qq d (cL r) hk;have jK:cS d=d.n:=if_pos hk;rw[jK]at hb2;obtain⟨p,N⟩:∃p:Nat,d.fr+(i:Int) -d.to=(p:Int):=⟨(d.fr+(i:Int) -d.to).toNat,ae⟩;have hpl:p<old.length:=ae;obtain⟨kW,B,v,hc0⟩:=Bj ae;have G:=hid v;have s:=hid (hc0 p hpl);obtain⟨t,l⟩:=ex (old[p]?.getD 0);rw[l]at s;have H:aE (wV _ _ d=t):=hid (by unfold wV;rw[if_pos hk,N,DI];exact l);have O:=z.b8;rw[jK]at O;have I:=hid hk;clear hk z l v hc0 r;refine ct ?_;refine bN a [4,7,8] (λi u=>match i with|4=>J R (j:Int)|7=>ay (ab ⟨u.b,0,af⟩)|_=>aY) (λf=>λ|7=>ai ((f 7).b) #[J R 0,J R 0,J R 0,J R 0,ad af 0 0] 73|8=>ai ((f 7).b) #[J R d.k,J R d.to,J R d.fr,J R d.n,ad F d.data.length K] 73|_=>emp) (λ|8=>[9]|_=>[]) (λ|1=>[1]|2=>[1]|_=>[]) (λ|7=>[7]|8=>[7]|_=>[]) [0,1,6,10] (λf=>?_);refine aK ?_;refine dl 0 66 ?_ (hv:=eS);refine ea 0 (a1 o (n:Int) g1 g2 (ad A ms.length c)) ?_ (hv:=(ee _)) (hk:=by omega) (hz:=(by rw[cN];rfl));refine aK ?_;refine dD (λQ _ a=>V Q a.only) ?_;refine aL _ (λ_ _ _=>cH 24 73 5 _ _ aa eA aw C D _ c j _ (by show ad A _ _=_;rw[T]) aa L aa) ?_;refine aL _ (λ_ _ a=>e6 73 (bb 19) aa C (D+j*5) aa _ (U _ a.only) fW aa aw) ?_;refine qB _ ?_;refine fY _ ?_;refine bQ λaR a=>?_;generalize (f 7).b=fL at a⊢;replace a:=a.drop 2;refine b4 ?_;refine pl a 2 0 ?_;refine dr I (ak aB) ?_;refine jt ?_;refine pl a 2 2 ?_;refine ah ?_;refine pad _ _ (d.fr+(i:Int)) ?_;refine ah ?_;refine pl a 2 1 ?_;refine mN _ _ _ ?_;refine aI _ (cH 22 5 1 _ _ aa dI aw kW B _ bZ p ((B+p)) (by show ad E _ _=_;rw[G]) aa hpl ae) ?_;refine aI _ (nr aa aa (a.only.cell s (λh=>h)) aw) ?_;refine f' a #[J d' t] 5 (λaxw bL a=>?_);refine nt (m:=1) a 1 1 (aW.cellsOf (m:=1) (a.aZ 0) aa) (by intro u y;simp at y;subst y;rfl) (λUP Ys ca a=>?_) (hby:=by omega);refine cJ ?_;refine pad (i:Int) 1 ((i+1:Nat):Int) ?_;refine bP ?_;go_wp2_with fail;go_roundw;case rel=>exact⟨_,_,_,ae,aa,aa,by rw[X,gx,H];exact a.pick [1,2]⟩
    case measure=>simp[cd]<;>omega
   .have hk2:cS d=(d.data.length:Int):=if_neg hk;rw[hk2]at hb2;obtain⟨p,N⟩:∃p:Nat,(i:Int) -d.to=(p:Int):=⟨((i:Int) -d.to).toNat,ae⟩;have hpl:p<d.data.length:=ae;obtain⟨kW,B,v,hc0⟩:=(gR w (ar.refl _ _)).1 ae;have G:=hid v;have s:=hid (hc0 p hpl);obtain⟨t,l⟩:=ex (d.data[p]?.getD 0);rw[l]at s;have H:aE (wV old _ d=t):=hid (by unfold wV;rw[if_neg hk,N,DI];exact l);have O:=z.b8;rw[hk2]at O;have I:=hid hk;clear hk z l v hc0 r;refine ct ?_;refine bN a [4,7,8] (λi u=>match i with|4=>J R (j:Int)|7=>ay (ab ⟨u.b,0,af⟩)|_=>aY) (λf=>λ|7=>ai ((f 7).b) #[J R 0,J R 0,J R 0,J R 0,ad af 0 0] 73|8=>ai ((f 7).b) #[J R d.k,J R d.to,J R d.fr,J R d.n,ad F d.data.length K] 73|_=>emp) (λ|8=>[9]|_=>[]) (λ|1=>[1]|2=>[1]|_=>[]) (λ|7=>[7]|8=>[7]|_=>[]) [0,1,6,10] (λf=>?_);refine aK ?_;refine dl 0 66 ?_ (hv:=eS);refine ea 0 (a1 o (n:Int) g1 g2 (ad A ms.length c)) ?_ (hv:=(ee _)) (hk:=by omega) (hz:=(by rw[cN];rfl));refine aK ?_;refine dD (λQ _ a=>V Q a.only) ?_;refine aL _ (λ_ _ _=>cH 24 73 5 _ _ aa eA aw C D _ c j _ (by show ad A _ _=_;rw[T]) aa L aa) ?_;refine aL _ (λ_ _ a=>e6 73 (bb 19) aa C (D+j*5) aa _ (U _ a.only) fW aa aw) ?_;refine qB _ ?_;refine fY _ ?_;refine bQ λcF a=>?_;generalize (f 7).b=fL at a⊢;replace a:=a.drop 2;refine b4 ?_;refine pl a 2 0 ?_;refine dr I (ak au) ?_;refine ja ?_;refine pl a 2 4 ?_;refine v2 ?_;refine pl a 2 1 ?_;refine mN _ _ _ ?_;refine aI _ (cH 22 5 1 _ _ aa dI aw kW B _ K p ((B+p)) (by show ad F _ _=_;rw[G]) aa hpl ae) ?_;refine aI _ (nr aa aa (a.only.cell s (λh=>h)) aw) ?_;refine f' a #[J d' t] 5 (λOw c6 a=>?_);refine nt (m:=1) a 1 1 (aW.cellsOf (m:=1) (a.aZ 0) aa) (by intro u y;simp at y;subst y;rfl) (λq5 rH dW a=>?_) (hby:=by omega);refine cJ ?_;refine pad (i:Int) 1 ((i+1:Nat):Int) ?_;refine bP ?_;go_wp2_with fail;go_roundw;case rel=>exact⟨_,_,_,ae,aa,aa,by rw[X,gx,H];exact a.pick [1,2]⟩
    case measure=>simp[cd]<;>omega
  .have cI:¬(i:Int)<(n:Int):=ae;obtain rfl:i=n:=ae;go_step;refine ag ?_;refine v2 ?_;refine pl a 1 1 ?_ (hv:=jh);refine cb (ak au) ?_;refine ag ?_;refine dP ?_;go_wp2_with fail;go_ret;exact⟨aJ,c2,aa,a.fresh 0⟩
end
section
attribute [local irreducible] wpList c9
def M6(m y:bG):Int:=if m.k=1 then(kM (src m) (b8 y)).2 else 0
def sK(ms:List bG)(i j:Nat):Bool:=match ms[i]?,ms[j]? with
 |some m,ab y=>decide (i≠j)&&(decide (m.k=1)&&meets (src m) (b8 y))
 |_,_=>au
def qV(ms:List bG)(i j:Nat):List (Int×Int):=((dF j).filter (sK ms i)).map (λj:Nat=>((i:Int),(j:Int)))
def mi(ms:List bG)(i:Nat):List (Int×Int):=(dF i).flatMap (λi=>qV ms i ms.length)
def ad6 ms i:mi ms (i+1)=mi ms i++qV ms i ms.length:=by simp[mi,pE]
def aek{ms i j}(h:sK ms i j=aB):qV ms i (j+1)=qV ms i j++[((i:Int),(j:Int))]:=by grind[qV,pE]
def M'{ms i j}(h:sK ms i j=au):qV ms i (j+1)=qV ms i j:=by grind[qV,pE]
def aua ms(i j):(qV ms i j).length<=j:=by grind[qV]
def ad5 ms:∀i,(mi ms i).length<=i*ms.length
 |0=>by simp[mi]
 |i+1=>by rw[ad6,dv,vm];have h1:=ad5 ms i;have a:=aua ms i ms.length;omega
def aue(m y)(d f)(g h)w(r:m.k=1->eD (src m))(s:eD (b8 y)):
 aD ax 83 #[mz m d g,mz y f h] w λe w'=>e=aA (J R (M6 m y))/\aq w w':=by
 unfold M6;by_cases hk:m.k=1;·rw[if_pos hk];obtain⟨fa,l,p⟩:∃a b,kM (src m) (b8 y)=(a,b):=⟨_,_,aa⟩;have t:aE (∀W,aD _ _ _ W λe w'=>e=aA (av #[J _ fa,J _ l])/\aq W w'):=hid (λW=>by have q:=aej _ _ _ _ W (r hk) s;rw[show kM (m.fr,m.n) (y.to,cS y)=(fa,l)from p]at q;exact q);rw[p];simp only;have A:=hid (λW=>aem m d g W);have u:=hid (λW=>Fw y f h W);obtain⟨fb,v⟩:=ex (cS y);rw[v]at t u;have o:=hid hk;clear r s p hk v;go_enter Tryz.func83,Tryz.ntmps83;have c:=bf w;go_step;refine ag ?_;refine bM (cs:=#[J _ _,J _ _,J _ _,J _ _,ad d _ g]) c _ (λx w1 c=>?_);refine bM (cs:=#[J _ _,J _ _,J _ _,J _ _,ad f _ h]) c _ (λz C c=>?_);refine cJ ?_;refine pl c 1 0 ?_;refine dr o (ak au) ?_;refine ct ?_;refine bN c [1,3,4] (λi _=>match i with|1=>av #[J R m.fr,J R m.n]|3=>av #[J R y.to,J R fb]|4=>av #[J R fa,J R l]|_=>aY) (λ_ _=>emp) (λ_=>[]) (λ|0=>[1]|2=>[0]|_=>[]) (λ_=>[]) [0,1,3,5,6] (λB=>?_);refine ea 0 #[J R m.k,J R m.to,J R m.fr,J R m.n,ad d m.data.length g] ?_;refine dD (λj _ _=>A j) ?_;refine ea 0 #[J R y.k,J R y.to,J R y.fr,J R y.n,ad f y.data.length h] ?_;refine dD (λj _ _=>u j) ?_;refine dD (λj _ _=>t j) ?_;refine gB (J R l) ?_;refine aK ?_;refine bQ λD c=>?_;replace c:=c.drop 2;replace c:=c.drop 2;replace c:=c.drop 2;go_wp2_with fail;go_ret;exact⟨aa,c.only⟩
 .rw[if_neg hk];have o:=hid hk;clear hk r s;go_enter Tryz.func83,Tryz.ntmps83;have c:=bf w;go_step;refine ag ?_;refine bM (cs:=#[J _ _,J _ _,J _ _,J _ _,ad d _ g]) c _ (λx E c=>?_);refine bM (cs:=#[J _ _,J _ _,J _ _,J _ _,ad f _ h]) c _ (λz F c=>?_);refine cJ ?_;refine pl c 1 0 ?_;refine dr o (ak aB) ?_;refine ag ?_;refine ah ?_;refine an ?_;go_wp2_with fail;go_ret;exact⟨aa,c.only⟩
def at1 A c ms w(hl:cC w A ms)(ef:ms.length<=1000)(hv:∀m∈ms,hX m/\(m.k=1->eD (src m))):
 aD ax 31 #[ad A ms.length c] w λe w'=>∃b,e=aA (ay (ab ⟨b,0,af⟩))/\∃K U,b3 w w' (bO [ai b #[J R (ms.length:Int),ad K (mi ms ms.length).length U] 169,bn K (mi ms ms.length).length U 174 2 (il (mi ms ms.length))]):=by
 have P:=hid hl;have T:=hid hv;clear hl hv;go_enter func31,ntmps31;have a:=bf w;go_step;refine ag ?_;refine ku ?_;refine pk (av #[J R (ms.length:Int),ad af 0 0]) ?_;refine bM (cs:=#[J _ _,ad _ 0 0]) a _ (λo w1 a=>?_);refine bP ?_;replace a:=a.new (bn af 0 0 174 2 []) ⟨ar.refl _ _,Row.nil _ _ _ _,λb ⟨_,_,e⟩=>aF⟩;refine ag ?_;refine ah ?_;refine an ?_;have f:=a.pk [1,0];go_wp2_with fail;go_loopw [4] (λG wr=>∃(i q:Nat) (aJ:Option bU) (c2:Nat),i<=ms.length/\aE ((mi ms i).length=q)/\q<=i*ms.length/\G=J R (i:Int)/\aj w (λ_=>False) wr [ai o #[J R (ms.length:Int),ad aJ q c2] 169,bn aJ q c2 174 2 (il (mi ms i))]) (λG wr=>ms.length -(cd G).toNat);case atStart=>exact⟨0,0,_,0,cQ _,hid aa,cQ _,aa,f⟩
 case round=>
  clear a f;obtain⟨i,q,aJ,c2,hi,Q,abr,rfl,a⟩:=hrel;by_cases hlt:i<ms.length
  .have cI:(i:Int)<(ms.length:Int):=ae;have Co:(i+1)*ms.length<=1000*1000:=Ky ae ef;rw[vm]at Co;obtain⟨m,E⟩:∃m,ms[i]?=ab m:=⟨_,cj hlt⟩;obtain⟨r,bK,aP,aQ,V,Y,Z⟩:=cC.h9 P E;have L:=hid V;have gR:=hid Y;have N:=hid Z;have x:=hid E;clear V Y Z E;go_step;refine ag ?_;refine v3 ?_;refine cb (ak aB) ?_;refine ag ?_;refine ah ?_;refine an ?_;have f:=a;rw[show mi ms i=mi ms i++qV ms i 0 from(j6 _).symm]at f;go_wp2_with fail;go_loopw [5] (λH wr=>∃(j s:Nat) (aJ:Option bU) (c2:Nat),j<=ms.length/\aE ((mi ms i++qV ms i j).length=s)/\s<=q+j/\H=J R (j:Int)/\aj w (λ_=>False) wr [ai o #[J R (ms.length:Int),ad aJ s c2] 169,bn aJ s c2 174 2 (il (mi ms i++qV ms i j))]) (λH wr=>ms.length -(cd H).toNat);case atStart=>exact⟨0,q,aJ,c2,cQ _,hid (by rw[show qV ms i 0=[]from aa,j6];exact Q),cm _,aa,f⟩
   case round=>
    clear a f;obtain⟨j,s,aJ,c2,hj,l,SL,rfl,a⟩:=hrel;by_cases D:j<ms.length
    .have Sl:(j:Int)<(ms.length:Int):=ae;obtain⟨y,F⟩:∃y,ms[j]?=ab y:=⟨_,cj D⟩;obtain⟨t,o8,xJ,l7,X,_,sQ⟩:=cC.h9 P.out F;have M:=hid X;have O:=hid sQ;have C:=hid F;clear F X sQ;go_step;refine ag ?_;refine v3 ?_;refine cb (ak aB) ?_;refine an ?_;by_cases n:i=j
     .have d:aE (sK ms i j=au):=hid (by unfold sK;rw[x,C];simp[n]);have p:aE (((i:Int)!=(j:Int))=au):=hid (by subst n;simp);clear n;refine ct ?_;refine bN a [] (λ_ _=>aY) (λ_ _=>emp) (λ_=>[]) (λ_=>[]) (λ_=>[]) [0,1] (λus=>?_);refine bp ?_;refine aL (ak au) (λ_ _ _=>by(have h:=p.out;go_simp;try simp[h])) ?_;refine aK ?_;iterate 10 refine ds ?_
      refine aK ?_;refine bQ λaR a=>?_;refine b4 ?_;refine pad (j:Int) 1 ((j+1:Nat):Int) ?_;refine bP ?_;go_wp2_with fail;go_roundw;case rel=>exact⟨j+1,s,aJ,c2,ae,hid (by rw[M' d];exact l),ae,aa,by rw[M' d];exact a.pick [0,1]⟩
      case measure=>simp[cd]<;>omega
     .have p:aE (((i:Int)!=(j:Int))=aB):=hid (bne_iff_ne.2 ae);have jq:=T m (cL x);have Ik:=T y (cL C);obtain⟨z,hz⟩:=ex (M6 m y);have S:aE (∀W,aD _ 83 #[av _,av _] W λe w'=>e=aA (J _ z)/\aq W w'):=hid (λW=>by rw[<-hz];exact aue m y aP xJ aQ l7 W jq.2 Ik.1.CW)
      have v:sK ms i j=decide (z>0):=by
       unfold sK;rw[x,C,<-hz];unfold M6;by_cases hk:m.k=1
       .rw[if_pos hk];simp only[n,hk,ne_eq,not_false_eq_true,decide_true,Ju];cases mG:meets (src m) (b8 y)with
        |true=>exact(decide_eq_true (TF.2 mG)).symm
        |false=>exact(decide_eq_false (λh=>by rw[TF.1 h]at mG;cases mG)).symm
       .rw[if_neg hk];simp[hk]
      clear hz jq Ik n;by_cases g:z>0
      .have d:aE (sK ms i j=aB):=hid (by rw[v];exact decide_eq_true g);have B:=hid g;clear g v;refine ct ?_;refine bN a [12] (λi _=>match i with|12=>J R z|_=>aY) (λ_ _=>emp) (λ_=>[]) (λ_=>[]) (λ_=>[]) [0,1,14] (λus=>?_);refine bp ?_;refine aL (ak aB) (λ_ _ _=>by(have h:=p.out;go_simp;try simp[h])) ?_;refine c7 ?_;refine aL _ (λ_ _ _=>cH 24 73 5 _ _ aa eA aw r bK _ c i _ (by show ad A _ _=_;rw[L]) aa hlt aa) ?_;refine aL _ (λ_ _ a=>by(refine e6 73 _ aa r _ aa _ (N _ a.only) fW aa aw)) ?_;refine bp ?_;refine aL _ (λ_ _ _=>cH 24 73 5 _ _ aa eA aw t o8 _ c j _ (by show ad A _ _=_;rw[M]) aa D aa) ?_;refine aL _ (λ_ _ a=>e6 73 (bb 32) aa t (o8+j*5) aa _ (O _ a.only) fW aa aw) ?_;refine dD (λI _ _=>S I) ?_;refine aL (ak aB) (λ_ _ _=>by(have h:=B.out;go_simp;try omega)) ?_;refine aK ?_;refine bQ λbL a=>?_;replace a:=a.drop 2;refine oM ?_;refine pl a 0 1 ?_;refine v3 ?_;refine f' a #[J R (i:Int),J R (j:Int)] 174 (λFQ ca a=>?_);refine nt (m:=1) a 2 16 (aW.cellsOf (m:=1) (a.aZ 0) aa) (by intro u hu;simp at hu;rcases hu with rfl|rfl<;>rfl) (λafS ale cF a=>?_) (hby:=by omega);refine v2 ?_;refine a' a 1 (ad _ _ _) (λc6 a=>?_);refine b4 ?_;refine pad (j:Int) 1 ((j+1:Nat):Int) ?_;refine bP ?_;go_wp2_with fail;go_roundw;case rel=>exact⟨j+1,s+1,_,_,ae,hid (by rw[aek d,<-j5,dv,l];rfl),ae,aa,by rw[aek d.out,<-j5,Q2];exact a.pick [1,2]⟩
       case measure=>simp[cd]<;>omega
      .have d:aE (sK ms i j=au):=hid (by rw[v];exact decide_eq_false g);have B:=hid g;clear g v;refine ct ?_;refine bN a [12] (λi _=>match i with|12=>J R z|_=>aY) (λ_ _=>emp) (λ_=>[]) (λ_=>[]) (λ_=>[]) [0,1,14] (λus=>?_);refine bp ?_;refine aL (ak aB) (λ_ _ _=>by(have h:=p.out;go_simp;try simp[h])) ?_;refine c7 ?_;refine aL _ (λ_ _ _=>cH 24 73 5 _ _ aa eA aw r bK _ c i _ (by show ad A _ _=_;rw[L]) aa hlt aa) ?_;refine aL _ (λ_ _ a=>by(refine e6 73 _ aa r _ aa _ (N _ a.only) fW aa aw)) ?_;refine bp ?_;refine aL _ (λ_ _ _=>cH 24 73 5 _ _ aa eA aw t o8 _ c j _ (by show ad A _ _=_;rw[M]) aa D aa) ?_;refine aL _ (λ_ _ a=>e6 73 (bb 32) aa t (o8+j*5) aa _ (O _ a.only) fW aa aw) ?_;refine dD (λI _ _=>S I) ?_;refine aL (ak au) (λ_ _ _=>by(have h:=B.out;go_simp;try omega)) ?_;refine aK ?_;refine bQ λdW a=>?_;replace a:=a.drop 2;refine b4 ?_;refine pad (j:Int) 1 ((j+1:Nat):Int) ?_;refine bP ?_;go_wp2_with fail;go_roundw;case rel=>exact⟨j+1,s,aJ,c2,ae,hid (by rw[M' d];exact l),ae,aa,by rw[M' d];exact a.pick [0,1]⟩
       case measure=>simp[cd]<;>omega
    .have Sl:¬(j:Int)<(ms.length:Int):=ae;obtain rfl:j=ms.length:=ae;rw[<-ad6]at a l;go_step;refine ag ?_;refine v3 ?_;refine cb (ak au) ?_;refine b4 ?_;refine pad (i:Int) 1 ((i+1:Nat):Int) ?_;refine bP ?_;go_wp2_with fail;go_roundw;case rel=>exact⟨_,s,aJ,c2,ae,l,by rw[vm];omega,aa,a.pick [0,1]⟩
     case measure=>simp[cd]<;>omega
  .have cI:¬(i:Int)<(ms.length:Int):=ae;obtain rfl:i=ms.length:=ae;go_step;refine ag ?_;refine v3 ?_;refine cb (ak au) ?_;refine ag ?_;refine dP ?_;go_wp2_with fail;go_ret;exact⟨o,aa,aJ,c2,by rw[Q];exact((a.pick (l':=[ai o _ _,bn aJ q c2 _ 2 _]) [0,1]).fB 2).fresh 0⟩
end
section
attribute [local irreducible] wpList c9
def auD A(c i)off ms w(r:cC w A ms)(I:ms.length<=1048576)(hi:i<=ms.length)(hv:∀m∈ms,eD (b8 m))(hno:∀(j) y,j<i->ms[j]?=ab y->hasB y off=au):
 aD ax 174 #[ad A ms.length c,J R (i:Int),J R off] w λe w'=>e=aA (ak au)/\aq w w':=by
 have x:=hid r;have D:=hid hv;have B:=hid hno;clear r hv hno;go_enter func174,ntmps174;have a:=bf w;go_step;refine ag ?_;refine ah ?_;refine ag ?_;refine ah ?_;refine an ?_;have C:=a;go_wp2_with fail;go_loopw [7] (λf wr=>∃j:Nat,j<=i/\f=J R (j:Int)/\aj w (λ_=>False) wr []) (λf wr=>i -(cd f).toNat);case atStart=>grind
 case round=>
  clear a C;obtain⟨j,H,rfl,a⟩:=hrel;by_cases hlt:j<i
  .have F:(j:Int)<(i:Int):=ae;have q:j<ms.length:=ae;obtain⟨m,d⟩:∃m,ms[j]?=ab m:=⟨_,cj q⟩;obtain⟨b,g,t,E,n,o,p⟩:=cC.h9 x d;have u:=hid n;have G:=hid o;have v:=hid p;have k:=hid d;clear n o p d;have s:=D m (cL k);have h:=hid (λW=>aai _ _ _ W s _ (B j m hlt k));have l:=hid (λW=>Fw m t E W);clear s;obtain⟨z,hz⟩:=ex (cS m);rw[hz]at h l;clear hz;go_step;refine ag ?_;refine v2 ?_;refine cb (ak aB) ?_;refine ja ?_;refine aI (ay (ab ⟨b,(g+j*5),af⟩)) (cH 24 73 5 (bb 13) (bb 14) aa eA aw b g (ms.length) c j ((g+j*5)) (by show ad A _ _=_;rw[u]) aa q aa) ?_;refine aI _ (by(refine e6 73 _ aa b _ aa _ (v _ a.only) fW aa aw)) ?_;refine bA (l _) a (λw1 a=>?_);refine ah ?_;refine bA (h _) a (λK a=>?_);refine b4 ?_;refine pad (j:Int) 1 ((j+1:Nat):Int) ?_;refine bP ?_;go_wp2_with fail;go_roundw;case rel=>exact⟨j+1,ae,aa,a⟩
   case measure=>simp[cd]<;>omega
  .have F:¬(j:Int)<(i:Int):=ae;go_step;refine ag ?_;refine v2 ?_;refine cb (ak au) ?_;refine ag ?_;refine ah ?_;refine an ?_;go_wp2_with fail;go_ret;exact⟨aa,a.only⟩
def atC A(c i)m ms w(p:cC w A ms)(L:ms.length<=1048576)(r:ms[i]?=ab m)(l:i<ms.length)(hv:∀m∈ms,hX m)(hno:m.k=1->∀off,m.fr<=off->off<m.fr+m.n->∀(j) y,j<i->ms[j]?=ab y->hasB y off=au):
 aD ax 85 #[ad A ms.length c,J R (i:Int)] w λe w'=>e=aA (ad af 0 0)/\aq w w':=by
 have P:=hid p;have V:(i:Int)<(ms.length:Int):=ae;have s:=hv m (cL r);have G:=hid (λW off g h=>auD A c i off ms W (p.aH g) L ae (λm K=>(hv m K).CW) h);have D:=hid hno;obtain⟨f,o,O,Q,v,_,x⟩:=cC.h9 p r;have b:=hid v;have d:=hid x;clear p v x hno r hv;by_cases hk:m.k=1
 .obtain⟨S,T,U,_⟩:=s.copy hk;have q:aE ((m.k !=1)=au):=hid aF;have C:=hid hk;clear hk s;go_enter Tryz.func85,Tryz.ntmps85;have a:=bf w;go_upto_region 0 with fail;refine cM ?_;refine ah ?_;refine an ?_;go_upto_region 1 with fail;refine cM ?_;refine ah ?_;refine cb (ak au) ?_;refine v4 ?_;refine cb (ak au) ?_;refine v4 ?_;refine aI _ (cH 24 73 5 (bb 17) _ aa eA aw f o _ c i _ (by show ad A _ _=_;rw[b]) aa l aa) ?_;refine ah ?_;refine aI _ (nr aa aa (d _ a.only 0 _ aa) aw) ?_;refine dr q (ak au) ?_;refine ah ?_;refine an ?_;go_upto_region 3 with fail;refine cM ?_;refine ah ?_;refine an ?_;go_upto_region 4 with fail;refine cM ?_;refine v2 ?_;refine aI _ (cH 24 73 5 (bb 24) _ aa eA aw f o _ c i _ (by show ad A _ _=_;rw[b]) aa l aa) ?_;refine ah ?_;refine aI _ (nr aa aa (d _ a.only 2 _ aa) aw) ?_;refine ah ?_;refine an ?_;have F:=a;go_wp2_with fail;go_loopw [5,6] (λB u wr=>∃t:Nat,(t:Int)<=m.n/\B=ad af 0 0/\u=J R (m.fr+(t:Int))/\aj w (λ_=>False) wr []) (λB u wr=>(m.n -(cd u -m.fr)).toNat);case atStart=>grind
  case round=>
   clear a F;obtain⟨t,X,rfl,rfl,a⟩:=hrel;obtain⟨off,z⟩:=ex (m.fr+(t:Int));rw[z];by_cases hlt:(t:Int)<m.n
   .have I:off<m.fr+m.n:=ae;have E:=hid z;go_upto_region 5 with fail;refine bN a [] (λ_ _=>aY) (λ_ _=>emp) (λ_=>[]) (λ_=>[]) (λ_=>[]) [] (λN=>?_);refine c7 ?_;refine aL _ (λ_ _ _=>cH 24 73 5 _ _ aa eA aw f o _ c i _ (by show ad A _ _=_;rw[b]) aa l aa) ?_;refine aK ?_;refine aL _ (λ_ _ a=>nr aa aa (d _ a.only 2 _ aa) aw) ?_;refine bp ?_;refine aL _ (λ_ _ _=>cH 24 73 5 _ _ aa eA aw f o _ c i _ (by show ad A _ _=_;rw[b]) aa l aa) ?_;refine aK ?_;refine aL _ (λ_ _ a=>nr aa aa (d _ a.only 3 _ aa) aw) ?_;refine aL _ (λ_ _ _=>lK 3 _ _ 3 aa _ _ (m.fr+m.n) aa aa ae ae ae) ?_;refine aL (ak aB) (λ_ _ _=>by(go_simp;try omega)) ?_;refine bQ λw1 a=>?_;go_upto_region 7 with fail;refine cM ?_;refine v3 ?_;refine a6 (G _ off a.only (λj y H M=>D C off ae ae j y H M)) ?_;rintro e Y ⟨rfl,g⟩;replace a:=a.aH g;refine ba ?_;refine pk (ak aB) ?_;refine an ?_;go_upto_region 6 with fail;refine cM ?_;refine ah ?_;refine pad _ 1 (off+1) ?_;refine ah ?_;refine an ?_;go_wp2_with fail;go_roundw;case rel=>exact⟨t+1,ae,aa,by rw[<-E];congr 1;omega,a⟩
    case measure=>simp[cd]<;>omega
   .have I:¬off<m.fr+m.n:=ae;go_upto_region 5 with fail;refine bN a [] (λ_ _=>aY) (λ_ _=>emp) (λ_=>[]) (λ_=>[]) (λ_=>[]) [] (λN=>?_);refine c7 ?_;refine aL _ (λ_ _ _=>cH 24 73 5 _ _ aa eA aw f o _ c i _ (by show ad A _ _=_;rw[b]) aa l aa) ?_;refine aK ?_;refine aL _ (λ_ _ a=>nr aa aa (d _ a.only 2 _ aa) aw) ?_;refine bp ?_;refine aL _ (λ_ _ _=>cH 24 73 5 _ _ aa eA aw f o _ c i _ (by show ad A _ _=_;rw[b]) aa l aa) ?_;refine aK ?_;refine aL _ (λ_ _ a=>nr aa aa (d _ a.only 3 _ aa) aw) ?_;refine aL _ (λ_ _ _=>lK 3 _ _ 3 aa _ _ (m.fr+m.n) aa aa ae ae ae) ?_;refine aL (ak au) (λ_ _ _=>by(go_simp;try omega)) ?_;refine bQ λZ a=>?_;go_upto_region 12 with fail;refine cM ?_;refine v2 ?_;refine an ?_;go_wp2_with fail;go_ret;exact⟨aa,a.only⟩
 .have q:=hid (bne_iff_ne.2 hk);clear hk s;go_enter Tryz.func85,Tryz.ntmps85;have a:=bf w;go_upto_region 0 with fail;refine cM ?_;refine ah ?_;refine an ?_;go_upto_region 1 with fail;refine cM ?_;refine ah ?_;refine cb (ak au) ?_;refine v4 ?_;refine cb (ak au) ?_;refine v4 ?_;refine aI _ (cH 24 73 5 (bb 17) _ aa eA aw f o _ c i _ (by show ad A _ _=_;rw[b]) aa l aa) ?_;refine ah ?_;refine aI _ (nr aa aa (d _ a.only 0 _ aa) aw) ?_;refine dr q (ak aB) ?_;refine ah ?_;refine an ?_;go_upto_region 2 with fail;refine cM ?_;refine ah ?_;refine an ?_;go_wp2_with fail;go_ret;exact⟨aa,a.only⟩
def aud A c ms w(b:cC w A ms)(t:ms.length<=1048576)(hv:∀m∈ms,hX m)(hno:∀(i j:Nat) (m y),j<i->ms[i]?=ab m->ms[j]?=ab y->m.k=1->∀off,m.fr<=off->off<m.fr+m.n->hasB y off=au):
 aD ax 34 #[ad A ms.length c] w λe w'=>e=aA (J R (ms.length:Int))/\aq w w':=by
 have v:=hid b;have o:=hid (λW i m g h=>atC A c i m ms W (b.aH g) t h (eQ.1 h).1 hv (λhk off h1 r j y f u=>hno i j m y f h u hk _ h1 r));clear b hv hno;go_enter func34,ntmps34;have a:=bf w;go_step;refine ag ?_;refine ah ?_;refine ag ?_;refine ah ?_;refine an ?_;have q:=a;go_wp2_with fail;go_loopw [3] (λd wr=>∃j:Nat,j<=ms.length/\d=J R (j:Int)/\aj w (λ_=>False) wr []) (λd wr=>ms.length -(cd d).toNat);case atStart=>grind
 case round=>
  clear a q;obtain⟨j,f,rfl,a⟩:=hrel;by_cases hlt:j<ms.length
  .have s:(j:Int)<(ms.length:Int):=ae;obtain⟨m,l⟩:∃m,ms[j]?=ab m:=⟨_,cj hlt⟩;have p:=hid l;clear l;go_step;refine ag ?_;refine v3 ?_;refine cb (ak aB) ?_;refine ja ?_;refine bA (o.out _ j m a.only p.out) a (λw1 a=>?_);refine ah ?_;refine pk (ak au) ?_;refine b4 ?_;refine pad (j:Int) 1 ((j+1:Nat):Int) ?_;refine bP ?_;go_wp2_with fail;go_roundw;case rel=>exact⟨j+1,ae,aa,a⟩
   case measure=>grind[cd]
  .have s:¬(j:Int)<(ms.length:Int):=ae;go_step;refine ag ?_;refine v3 ?_;refine cb (ak au) ?_;refine ag ?_;refine v3 ?_;refine an ?_;go_wp2_with fail;go_ret;exact⟨aa,a.only⟩
end
section
attribute [local irreducible] wpList c9
def y9(l:List Int):List UInt8:=l.map (λx=>ake x.toNat)
theorem avH{l}(h:jG l):l=(y9 l).map (λb=>(b.toNat:Int)):=by
 induction l with
 |nil=>rfl
 |cons x r d=>
  have h1:=h x aT;have a:=d (λy e=>h y aF);have c:((ake x.toNat).toNat:Int)=x:=by grind[UInt8.toNat_ofNat']
  simp only[y9,jx,c]at a⊢;rw[<-a]
def afb{P l}{a:Act}{w x b e d A n c bs}(q:jG bs)(p:bs.length=n)(i:l.op=.convert b d x)(hx:a.eval x=ad A n c)(hb:bR w A bs)(k:P.underlying b=ab (.slice e))(g:P.underlying e=ab (.int d'))(f:P.underlying d=ab .string):
 (bt a.eval l).run P w=.ok (.value (Pf ⟨(y9 bs).toArray⟩)) w:=by
 have r:(y9 bs).length=n:=by grind[y9]
 by_cases s:0<n;·grind[afa,ik,avH]
 .obtain rfl:n=0:=ae;obtain rfl:=Qv.1 p;cases A with
  |none=>
   unfold bt;simp[i,hx,run_convert_bytes_string w b d e af 0 c k g f,Conv.bytesToString,y9]
   rfl
  |some m=>
   have h:=ait (P:=P) w b d e m c [] k g f (λj o=>absurd o aT)
   unfold bt;simp at h;simp[i,hx,h,y9]
def atO{w b c A n E}(h:(bO [ai b #[J R n,ad A E.length c] 169,bn A E.length c 174 2 (il E)]).p w):G.lI w (λ_=>True) b n E:=
 G.lI.lW h.1 h.2.1.1 (λ_=>True) trivial (λ_ _=>trivial)
structure XT (old:List Int) (ms:List bG) (n:Nat) (S:List jQ) (o od:List Int) (rs:List bG) (ox:List Int):Prop where
 qb:nF old.length n ms
 K5:∀i:Nat,i<n->∃m∈ms,hasB m (i:Int)=aB
 app:vV old ms=nT old ms n
 iE:AY old ms S o od rs
 Nv:nF old.length n (fD ms od++rs)
 safe:AH (fD ms od++rs)=(0,0)
 pre:∀(i j:Nat) (m y:bG),j<i->(fD ms od++rs)[i]?=ab m->(fD ms od++rs)[j]?=ab y->m.k=1->∀off,m.fr<=off->off<m.fr+m.n->hasB y off=au
 akB:s3 old n (fD ms od++rs)=nT old ms n
 avI:lv (fD ms od++rs)=lv ms -ni ms o
 oi:∀x∈o,∃i:Nat,x=(i:Int)/\i<ms.length
 ev:G.Valid ms.length (mi ms ms.length)
 ord:G.mx (mi ms ms.length) ms.length [] ox
 free:decide (G.kp ms.length [] ox=[])=decide (o.length=0)
 bytes:jG (nT old ms n)
def YN{o n ms}(h:nF o n ms)(f:o<=1000):∀m∈ms,0<=nJ m/\nJ m<=1048576:=λm b=>by
 obtain⟨h1,a,_⟩:=h.fits m b;unfold nJ;by_cases hk:m.k=1;·obtain⟨c,d,_⟩:=h1.copy hk;have e:=a hk;rw[if_pos hk];omega
 .omega
def arN{o n ms}(h:nF o n ms)(f:o<=1000):∀m∈ms,0<=m.n/\m.n<=1048576:=λm c=>by
 obtain⟨h1,a,_⟩:=h.fits m c;by_cases hk:m.k=1;·obtain⟨b,d,_⟩:=h1.copy hk;have e:=a hk;omega
 .have b:=(h1.lit hk).2.2.1;omega
def avG p5 (r A) (bZ c) (o n) (g1 g2) old ms w (s:w.cell? ⟨0,0,af⟩=ab (J R p5)) (hold:bR w r old) (F:nE w r) (hc0:old.length<=bZ) (v:cC w A ms) (H:∀m∈ms,r1 m) (Z:jG old)
 (eM:∀uv:Nat,old.length<=300->ms.length<=20->rN ms=aB->uv<=1000->om o (uv:Int) ms->o=(old.length:Int)->∃S ev od rs ox,XT old ms uv S ev od rs ox):
 aD ax 6 #[ad r old.length bZ,dC o n g1 g2 (ad A ms.length c)] w λe w'=>e=aA (ak aB)/\aq w w':=by
 obtain⟨b,hb⟩:∃b:Bool,b=aB↔om o n ms:=by
  by_cases h:om o n ms;·exact⟨aB,aF⟩
  .exact⟨au,aF⟩
 have U:aE (∀W,aq w W->aD ax 9 #[] W λe w'=>e=aA (ak aB)/\aq W w'):=hid (λW g=>auB p5 W (g.cell s (λh=>h)));clear s;by_cases Y:300<old.length
 .clear hold F hc0 v H Z eM hb;have hz:(300:Int)<(old.length:Int):=ae;have E:=hid hz;clear hz Y;go_enter F1,OY;have a:=bf w;go_step;refine ag ?_;refine bM a (av (a1 o n g1 g2 (ad A ms.length c))) (λb6 w1 a=>?_);refine ku ?_;refine aI (ak aB) (by(have h:=E.out;go_simp;try omega)) ?_;refine ah ?_;iterate 3 refine ps ?_
  refine v2 ?_;iterate 4 refine ps ?_
  refine dQ ?_;refine bA (U.out _ a.only) a (λaR a=>?_);refine bP ?_;go_wp2_with fail;go_ret;exact⟨aa,a.only⟩
 .have hz:¬(300:Int)<(old.length:Int):=ae;have E:=hid hz;clear hz;obtain⟨s1,hs1⟩:=ex ((decide (ms.length<=20)&&(rN ms&&decide (n<=1000)&&b)));have V:aE (∀W,aq w W->aD ax 24 #[dC o n g1 g2 (ad A ms.length c)] W λe w'=>e=aA (ak s1)/\aq W w'):=hid (λW g=>by rw[<-hs1];exact aug o n g1 g2 A c ms W (v.aH g) H b hb);cases s1 with
  |false=>
   clear hold F hc0 v H Z eM hb Y hs1;go_enter F1,OY;have a:=bf w;go_step;refine ag ?_;refine bM a (av (a1 o n g1 g2 (ad A ms.length c))) (λb6 bL a=>?_);refine ku ?_;refine aI (ak au) (by(have h:=E.out;go_simp;try omega)) ?_;refine ah ?_;refine bq a 0 (a1 o n g1 g2 (ad A ms.length c)) ?_ (hv:=(ee _)) (hk:=by omega) (hz:=(by rw[cN];rfl));refine bA (V _ a.only) a (λca a=>?_);refine v3 ?_;iterate 4 refine ps ?_
   refine dQ ?_;refine bA (U.out _ a.only) a (λcF a=>?_);refine bP ?_;go_wp2_with fail;go_ret;exact⟨aa,a.only⟩
  |true=>
   simp only[v8,decide_eq_true_eq]at hs1;obtain⟨N,⟨eU,nM⟩,rfl⟩:=hs1;have EP:=hb.1 aa;obtain⟨s2,hs2⟩:=ex ((rN ms&&aB&&decide (o=(old.length:Int))&&decide (n<=3000)));have x0:aE (∀W,aq w W->aD ax 25 #[ad r old.length bZ,dC o n g1 g2 (ad A ms.length c)] W λe w'=>e=aA (ak s2)/\aq W w'):=hid (λW g=>by rw[<-hs2];exact atZ r old.length bZ o n g1 g2 A c ms W (v.aH g) ae H aB hb);cases s2 with
   |false=>
    clear hold F hc0 v H Z eM hb Y N eU nM EP hs2;go_enter F1,OY;have a:=bf w;go_step;refine ag ?_;refine bM a (av (a1 o n g1 g2 (ad A ms.length c))) (λb6 c6 a=>?_);refine ku ?_;refine aI (ak au) (by(have h:=E.out;go_simp;try omega)) ?_;refine ah ?_;refine bq a 0 (a1 o n g1 g2 (ad A ms.length c)) ?_ (hv:=(ee _)) (hk:=by omega) (hz:=(by rw[cN];rfl));refine bA (V _ a.only) a (λdW a=>?_);refine v4 ?_;refine bq a 0 (a1 o n g1 g2 (ad A ms.length c)) ?_ (hv:=(ee _)) (hk:=by omega) (hz:=(by rw[cN];rfl));refine bA (x0 _ a.only) a (λdG a=>?_);refine v2 ?_;refine ag ?_;refine bA (U.out _ a.only) a (λe8 a=>?_);refine bP ?_;go_wp2_with fail;go_ret;exact⟨aa,a.only⟩
   |true=>
    simp only[v8,decide_eq_true_eq]at hs2;obtain⟨⟨_,rfl⟩,_⟩:=hs2;obtain⟨n,rfl⟩:=tC EP.bd.1.2;obtain⟨S,ev,od,rs,ox,f⟩:=eM n ae N eU ae EP aa
    have iG:∀m∈ms,m.data.length<=140737488355328:=λm s=>by have h:=DK.1 (Bool.and_eq_true_iff.1 eU).1 m s;have h2:=of_decide_eq_true h;omega
    have yP:∀m∈ms,hX m:=λm s=>(f.qb.fits m s).1;have hno:∀m∈ms,0<=nJ m/\nJ m<=1048576:=YN f.qb ae;have iH:∀m∈fD ms od++rs,0<=nJ m/\nJ m<=1048576:=YN f.Nv ae;have Su:∀m∈ms,0<=m.n/\m.n<=1048576:=arN f.qb ae;have hb1:=YO hno ae ms.length;rw[ik]at hb1;have hb3:=ZK f.oi Su f.iE.iE.Eg ev.length;rw[ik]at hb3;have fC:=f.Nv.ek;have I:=f.avI;obtain⟨M,hgr⟩:=ex (ni ms ev);obtain⟨Q,SN⟩:=ex (lv ms);have aah:=Ya (od:=od) f.iE.rs ae iG;have L':∀m∈fD ms od++rs,hX m:=λm s=>(f.Nv.fits m s).1;obtain⟨eZ,O⟩:=ex (nT old ms n);have hL:eZ.length=n:=by grind[atr]
    have yL:vV old ms=eZ:=f.app.trans O;have hby:jG eZ:=O▸f.bytes;obtain⟨fr,yD⟩:=ex (decide (ev.length=0));have P6:aE (∀W,aq w W->aD ax 27 #[ad r old.length bZ,dC (old.length:Int) (n:Int) g1 g2 (ad A ms.length c)] W λe w'=>∃j k,e=aA (ad j n k)/\b3 W w' (bn j n k 5 1 (eZ.map a8))):=hid (λW g=>by rw[<-O];exact atv r A bZ c n (old.length:Int) g1 g2 old ms W (hold.aH g) (v.aH g) ae ae ae yP (λm s=>(f.qb.fits m s).2.1) f.K5);have Gh:aE (∀W K c1,aq w W->bR W K eZ->nE W K->aD ax 26 #[ad r old.length bZ,ad K n c1,ad A ms.length c] W λe w'=>∃j k t,e=aA (dC (old.length:Int) (n:Int) (iU old) (iU eZ) (ad j ms.length k))/\b3 W w' t/\hD t j k ms):=hid (λW K c1 g h1 h2=>by rw[<-hL];exact Y1 bZ c1 r K A c old eZ ms W ae ae (hold.aH g) (F.aH g) h1 h2 (v.aH g) N iG);obtain⟨cs,hcs⟩:=ex (fD ms od++rs);rw[hcs]at iH fC I aah L';have Ma:=f.Nv;have EN:=f.safe;have SE:=f.pre;have hap:=f.akB;rw[hcs]at Ma EN SE hap;have zw:aE (∀W aJ c2,aq w W->cC W aJ ms->aD ax 28 #[ad r old.length bZ,dC (old.length:Int) (n:Int) (iU old) (iU eZ) (ad aJ ms.length c2)] W λe w'=>∃j k t,e=aA (bg #[dC (old.length:Int) (n:Int) (iU old) (iU eZ) (ad j cs.length k),av #[J R 0,J R 0]])/\b3 W w' t/\hD t j k cs):=hid (λW aJ c2 g h=>by rw[<-hcs];exact YH r aJ bZ c2 n (iU old) (iU eZ) old ms S ev od rs W ae hc0 (hold.aH g) (F.aH g) h f.qb iG aa (by rw[yL];rfl) aF f.iE)
    have DF:aE (∀W,aq w W->aD ax 29 #[dC (old.length:Int) (n:Int) g1 g2 (ad A ms.length c)] W λe w'=>e=aA (bg #[J R Q,J R ((n:Int) -Q)])/\aq W w'):=hid (λW g=>by rw[<-SN];exact afl (old.length:Int) (n:Int) g1 g2 A c ms W (v.aH g) ae ae hno);obtain⟨cE,yN⟩:=ex (lv cs);have Bl:aE (∀W aJ c2,cC W aJ cs->aD ax 29 #[dC (old.length:Int) (n:Int) (iU old) (iU eZ) (ad aJ cs.length c2)] W λe w'=>e=aA (bg #[J R cE,J R ((n:Int) -cE)])/\aq W w'):=hid (λW aJ c2 h=>by rw[<-yN];exact afl (old.length:Int) (n:Int) _ _ aJ c2 cs W h ae ae iH);obtain⟨P,SI⟩:=ex (mi ms ms.length);have hrel:=ad5 ms ms.length;have jl:=f.ev;have Sz:=f.ord;have R8:=f.free;rw[SI]at hrel jl Sz;rw[yD]at R8;have SL:ms.length*ms.length<=20*20:=Ky N N;have Bg:aE (∀W,aq w W->aD ax 31 #[ad A ms.length c] W λe w'=>∃b,e=aA (ay (ab ⟨b,0,af⟩))/\∃j k,b3 W w' (bO [ai b #[J R (ms.length:Int),ad j P.length k] 169,bn j P.length k 174 2 (il P)])):=hid (λW g=>by rw[<-SI];exact at1 A c ms W (v.aH g) ae (λm s=>⟨yP m s,f.iE.iE.ok.src m s⟩));have ajk:aE (∀W b,G.lI W (λ_=>True) b ms.length P->aD ax 30 #[ay (ab ⟨b,0,af⟩),ad af 0 0] W λe w'=>∃j k q,e=aA (bg #[ad j q k,ak fr])/\aq W w'):=hid (λW b h=>(G.at8 b ms.length P (λ_=>True) af 0 [] W h cX.nil bh ae ae jl ox Sz fr R8).mono λe w' ⟨j,k,h1,_,h3⟩=>⟨j,k,_,h1,h3⟩);have vb:aE (∀W aJ c2,cC W aJ cs->aD ax 32 #[dC (old.length:Int) (n:Int) (iU old) (iU eZ) (ad aJ cs.length c2)] W λe w'=>e=aA (ak aB)/\aq W w'):=hid (λW aJ c2 h=>afw old.length n _ _ aJ c2 cs W h Ma);have ajm:aE (∀W aJ c2,cC W aJ cs->aD ax 33 #[ad aJ cs.length c2] W λe w'=>e=aA (av #[J R 0,J R 0])/\aq W w'):=hid (λW aJ c2 h=>by have q:=aex aJ c2 cs W h L' ae;rw[EN]at q;exact q);have wI:aE (∀W aJ c2,cC W aJ cs->aD ax 34 #[ad aJ cs.length c2] W λe w'=>e=aA (J R (cs.length:Int))/\aq W w'):=hid (λW aJ c2 h=>aud aJ c2 cs W h ae L' SE);have so:aE (∀W aJ c2,aq w W->cC W aJ cs->aD ax 35 #[ad r old.length bZ,dC (old.length:Int) (n:Int) (iU old) (iU eZ) (ad aJ cs.length c2)] W λe w'=>∃B,e=aA (ad (ab ⟨B,0,af⟩) n n)/\b3 W w' (ai B (aX a8 eZ []) 5)):=hid (λW aJ c2 g h=>by rw[<-O,<-hap];exact asW old.length n bZ _ _ r aJ c2 old cs W aa hc0 ae (hold.aH g) h Ma);have Gl:aE (∀W,aq w W->aD ax 36 #[dC (old.length:Int) (n:Int) g1 g2 (ad A ms.length c)] W λe w'=>e=aA (J R M)/\aq W w'):=hid (λW g=>by rw[<-hgr];exact aok (old.length:Int) (n:Int) g1 g2 A c ms S ev od W (v.aH g) f.iE.iE f.oi Su);obtain⟨q,hq⟩:=ex ev.length;have rn:aE (∀W,aq w W->aD ax 37 #[dC (old.length:Int) (n:Int) g1 g2 (ad A ms.length c)] W λe w'=>∃j k,e=aA (ad j q k)/\aq W w'):=hid (λW g=>by rw[<-hq];exact anw (old.length:Int) (n:Int) g1 g2 A c ms S ev od W (v.aH g) f.iE.iE);rw[hgr]at hb3 I;rw[SN]at hb1 I;rw[yN]at I;rw[hq]at yD;have uX:aE (((q:Int)==0)=fr):=hid (by rw[<-yD];by_cases h:q=0<;>simp[h]);have aiL:=hid I;obtain⟨aAa,aAb⟩:=hb1;obtain⟨ayF,ayG⟩:=hb3;have azz:n<=1000:=ae;have zv:=hid hby;have wH:=hid hL;have RZ:cs.length<=20:=fC;obtain⟨p,hM⟩:=ex old.length;obtain⟨C,yw⟩:=ex (iU old);obtain⟨D,Hp⟩:=ex (iU eZ);rw[hM]at P6 Gh zw DF Bl vb so Gl rn E V x0;rw[yw,Hp]at Gh zw Bl vb so;rw[hM];clear hold F hc0 v H Z eM hb Y eU nM EP f iG yP hno iH Su I hgr SN aah L' O hL yL hby yD hcs Ma EN SE hap yN SI hrel jl Sz R8 SL hq hM yw Hp;go_enter F1,OY;have a:=bf w;go_step;refine ag ?_;refine bM a (av (a1 (p:Int) (n:Int) g1 g2 (ad A ms.length c))) (λb6 hR a=>?_);refine ku ?_;refine aI (ak au) (by(have h:=E.out;go_simp;try omega)) ?_;refine ah ?_;refine bq a 0 (a1 (p:Int) (n:Int) g1 g2 (ad A ms.length c)) ?_ (hv:=(ee _)) (hk:=by omega) (hz:=(by rw[cN];rfl));refine bA (V _ a.only) a (λiZ a=>?_);refine v4 ?_;refine bq a 0 (a1 (p:Int) (n:Int) g1 g2 (ad A ms.length c)) ?_ (hv:=(ee _)) (hk:=by omega) (hz:=(by rw[cN];rfl));refine bA (x0 _ a.only) a (λks a=>?_);refine v2 ?_;refine ct ?_;refine bN a [3,6,7,8] (λi u=>match i with|3=>ad u.A n u.c|6=>av (a1 (p:Int) (n:Int) C D (ad u.A ms.length u.c))|7=>ay (ab ⟨u.b,0,af⟩)|_=>aY) (λd=>λ|3=>bn ((d 3).A) n ((d 3).c) 5 1 (eZ.map a8)|6=>kN (hD (d 6).t (d 6).A (d 6).c ms) (d 6).t|7=>ai ((d 7).b) (a1 0 0 dX.zero dX.zero (ad af 0 0)) 26|8=>ai ((d 7).b) (a1 (p:Int) (n:Int) C D (ad (d 6).A ms.length (d 6).c)) 26|_=>emp) (λ|8=>[8]|_=>[]) (λ|2=>[0]|5=>[0]|6=>[4]|_=>[]) (λ|3=>[3]|6=>[6]|7=>[7]|8=>[6,7]|_=>[]) [0,4,7,9] (λd=>?_);refine bp ?_;refine ea 0 (a1 (p:Int) (n:Int) g1 g2 (ad A ms.length c)) ?_ (hv:=(ee _)) (hk:=by omega) (hz:=(by rw[cN];rfl));refine df (λl Fr a=>(P6 l a.only).mono ?_) ?_;·rintro e dm ⟨j,k,rfl,x⟩;exact⟨{A:=j,c:=k},aa,a.new _ x⟩
    refine aK ?_;refine dl 0 66 ?_ (hv:=eS);refine df (λl Fr a=>(Gh l (d 3).A (d 3).c a.only (a.atR 0).Fz (λb hb=>(a.has 0).2 b hb)).mono ?_) ?_;·rintro e dm ⟨j,k,t,rfl,x,j4⟩;exact⟨{A:=j,c:=k,t:=t},aa,(a.new _ x).kN j4⟩
    refine qB (a1 0 0 dX.zero dX.zero (ad af 0 0)) ?_;refine fY (av (a1 (p:Int) (n:Int) C D (ad (d 6).A ms.length (d 6).c))) ?_ (hk:=by show 0+jD (a1 _ _ _ _ _)<=_;simp only[cN];decide) (hz:=by show _=ab (jD (a1 _ _ _ _ _));rw[cN];rfl) (h1:=(vt aa)) (hc:=vQ);refine bQ λlf a=>?_;generalize (d 3).A=aw3 at a⊢;generalize (d 3).c=j8 at a⊢;generalize (d 6).A=T at a⊢;generalize (d 6).c=X at a⊢;generalize (d 6).t=Nl at a⊢;generalize (d 7).b=eK at a⊢;refine b4 ?_;refine bq a 3 (a1 (p:Int) (n:Int) C D (ad T ms.length X)) ?_ (hv:=(ee _)) (hk:=by omega) (hz:=(by rw[cN];rfl));refine a6 (zw _ T X a.only ((a.at (t:=kN (hD Nl T X ms) Nl) 2).1.s8 (a.at (t:=kN (hD Nl T X ms) Nl) 2).2)) ?_;rintro e mm ⟨y,z,t9,rfl,x,L⟩;replace a:=a.new _ x;refine ba ?_;refine v3 ?_;refine bx a (a1 0 0 dX.zero dX.zero (ad af 0 0)) (λeI nX a=>?_);refine bx a #[J R 0,J R 0] (λfL pd a=>?_);refine a' a 1 (av (a1 (p:Int) (n:Int) C D (ad y cs.length z))) (λtc a=>?_) (hk:=by show 0+jD (a1 _ _ _ _ _)<=_;simp only[cN];decide) (hz:=by show _=ab (jD (a1 _ _ _ _ _));rw[cN];rfl) (h1:=(vt aa)) (hc:=vQ);refine a' a 0 (av #[J R 0,J R 0]) (λtd a=>?_);refine ag ?_;refine bq a 3 (a1 (p:Int) (n:Int) g1 g2 (ad A ms.length c)) ?_ (hv:=(ee _)) (hk:=by omega) (hz:=(by rw[cN];rfl));refine bA (DF _ a.only) a (λxD a=>?_);refine v5 ?_;refine ag ?_;refine bq a 1 (a1 (p:Int) (n:Int) C D (ad y cs.length z)) ?_ (hv:=(ee _)) (hk:=by omega) (hz:=(by rw[cN];rfl));refine bA (Bl _ y z (L.s8 (a.at 2))) a (λAS a=>?_);refine v5 ?_;refine b4 ?_;refine pl a 3 66 ?_ (hv:=eS);refine a6 (Bg _ a.only) ?_;rintro e CZ ⟨j1,rfl,Jq,bA,x⟩;replace a:=a.new _ x;refine ba ?_;refine a6 (ajk _ j1 (atO (a.at 0))) ?_;rintro e C0 ⟨gu,co,az7,rfl,g⟩;replace a:=a.aH g;refine ba ?_;refine v5 ?_;refine ct ?_;refine bN a [5,11,18] (λi _=>match i with|5=>ak aB|11=>av #[J R 0,J R 0]|18=>J R (cs.length:Int)|_=>aY) (λ_ _=>emp) (λ_=>[]) (λ|0=>[1]|4=>[2]|5=>[3]|10=>[2]|11=>[3]|17=>[2]|18=>[3]|20=>[2]|_=>[]) (λ_=>[]) [0,1,2,3,4,5,6,7,13,19,26] (λd=>?_);refine ea 0 #[J R 0,J R 0] ?_;refine aK ?_;refine gB (ak au) ?_;refine aK ?_;refine ea 0 (a1 (p:Int) (n:Int) C D (ad y cs.length z)) ?_ (hv:=(ee _)) (hk:=by omega) (hz:=(by rw[cN];rfl));refine dD (λl _ a=>vb l y z (L.s8 (a.at 0))) ?_;refine iw ?_;refine dl 0 66 ?_ (hv:=eS);refine dD (λl _ a=>ajm l y z (L.s8 (a.at 0))) ?_;refine aK ?_;refine gB (ak au) ?_;refine c7 ?_;refine dl 0 66 ?_ (hv:=eS);refine dD (λl _ a=>wI l y z (L.s8 (a.at 0))) ?_;refine aK ?_;refine dl 0 66 ?_ (hv:=eS);refine aK ?_;refine aL (ak au) (λ_ _ _=>by(go_simp;try simp)) ?_;refine aK ?_;refine bQ λFG a=>?_;replace a:=a.drop 8;replace a:=a.drop 8;replace a:=a.drop 8;refine ct ?_;refine bN a [0,4,8,16,22] (λi u=>match i with|0=>ak aB|4=>ad (ab ⟨u.b,0,af⟩) n n|8=>ad u.A n u.c|16=>J R M|22=>ad u.A q u.c|_=>aY) (λd=>λ|4=>ai ((d 4).b) (aX a8 eZ []) 5|8=>bn ((d 8).A) n ((d 8).c) 5 1 (eZ.map a8)|_=>emp) (λ_=>[]) (λ|3=>[2]|4=>[3]|5=>[12]|7=>[4]|9=>[16]|15=>[4]|21=>[4]|_=>[]) (λ|4=>[4]|8=>[8]|_=>[]) [0,1,2,3,4,5,6,7,8,12,16,24,30] (λd=>?_);refine dD (λl _ a=>U l a.only) ?_;refine bp ?_;refine ea 0 (a1 (p:Int) (n:Int) C D (ad y cs.length z)) ?_ (hv:=(ee _)) (hk:=by omega) (hz:=(by rw[cN];rfl));refine df (λl Fr a=>(so l y z a.only (L.s8 (a.at 0))).mono ?_) ?_;·rintro e dm ⟨Oh,rfl,x⟩;exact⟨{b:=Oh},aa,a.new _ x⟩
    refine aL (Pf ⟨(y9 eZ).toArray⟩) (λ_ _ a=>afb zv wH aa aa (GY (a.aZ 0)) dI lj zl) ?_;refine aK ?_;refine ea 0 (a1 (p:Int) (n:Int) g1 g2 (ad A ms.length c)) ?_ (hv:=(ee _)) (hk:=by omega) (hz:=(by rw[cN];rfl));refine df (λl Fr a=>(P6 l a.only).mono ?_) ?_;·rintro e dm ⟨j,k,rfl,x⟩;exact⟨{A:=j,c:=k},aa,a.new _ x⟩
    refine aL (Pf ⟨(y9 eZ).toArray⟩) (λ_ _ a=>afb zv wH aa aa (a.atR 0).Fz dI lj zl) ?_;refine aL (ak aB) (λ_ _ _=>by(go_simp;try simp)) ?_;refine iw ?_;refine ea 0 (a1 (p:Int) (n:Int) g1 g2 (ad A ms.length c)) ?_ (hv:=(ee _)) (hk:=by omega) (hz:=(by rw[cN];rfl));refine dD (λl _ a=>Gl l a.only) ?_;refine aL (J R ((n:Int) -Q+M)) (λ_ _ _=>lK 3 (bb 97) (bb 99) 3 aa (((n:Int) -Q)) M ((n:Int) -Q+M) aa aa ae ae ae) ?_;refine aL (ak aB) (λ_ _ _=>by(have h:=aiL.out;go_simp;try omega)) ?_;refine bp ?_;refine ea 0 (a1 (p:Int) (n:Int) g1 g2 (ad A ms.length c)) ?_ (hv:=(ee _)) (hk:=by omega) (hz:=(by rw[cN];rfl));refine df (λl Fr a=>(rn l a.only).mono ?_) ?_;·rintro e dm ⟨j,k,rfl,g⟩;exact⟨{A:=j,c:=k},aa,(a.aH g).dS⟩
    refine aK ?_;refine aL (ak fr) (λ_ _ _=>by(have h:=uX.out;go_simp;try simp[h])) ?_;refine aK ?_;refine aL (ak aB) (λ_ _ _=>by(go_simp;try simp)) ?_;refine gB (ak aB) ?_;refine aK ?_;refine bQ λI' a=>?_;generalize (d 4).b=axh at a⊢;generalize (d 8).A=aw9 at a⊢;generalize (d 8).c=ayo at a⊢;generalize (d 22).A=awX at a⊢;generalize (d 22).c=aye at a⊢;replace a:=a.drop 8;replace a:=a.drop 10;replace a:=a.drop 10;go_wp2_with fail;go_ret;exact⟨aa,a.only⟩
end
def anT{ms off}(h:¬tZ ms off<0):∃m∈ms,hasB m off=true:=by grind[tZ]
theorem yy{m off}:hasB m off=aB↔m.to<=off/\off<m.to+cS m:=by grind[hasB]
def om.fits{o n:Nat}{ms}(h:om (o:Int) (n:Int) ms):∀m∈ms,jb o n m:=λm a=>aeV (h.bC m a)
def om.lays{o n:Nat}{ms}(h:om (o:Int) (n:Int) ms):Lays n (ms.map b8):=by
 have c:∀m∈ms,0<=m.to/\0<cS m/\m.to+cS m<=(n:Int):=λm a=>by obtain⟨h1,_,d⟩:=h.fits m a;exact⟨h1.b8.1,h1.b8.2.1,d⟩
 have f:=λt b hlt=>by have h1:=h.ZJ t b;unfold oz at h1;rw[decide_eq_true hlt,Ju]at h1;exact anT (of_decide_eq_false h1)
 refine⟨λx hx=>?_,?_,λr=>?_,λx hx hlt=>?_⟩;·obtain⟨m,a,rfl⟩:=gV.1 hx;exact c m a
 .rw[ya,l3];intro i j hi g l;have h1:=h.ap j i _ _ l (cj g) (cj hi);have q:=c _ (DQ hi);have d:=c _ (DQ g);unfold meets at h1;have k:=of_decide_eq_false h1;simp only[b8]at k⊢;omega
 .obtain⟨m,a,h1⟩:=f 0 (cQ _) (by show(0:Int)<n;omega);exact⟨_,gV.2 ⟨m,a,aa⟩,yy.1 h1⟩
 .obtain⟨m,a,rfl⟩:=gV.1 hx;obtain⟨t,b⟩:=oU.1 a;have e:Ff ms (t+1)=m.to+cS m:=by simp only[Ff,b]
  obtain⟨y,p,h1⟩:=f (t+1) (eQ.1 b).1 (by rw[e];exact hlt);rw[e]at h1;exact⟨_,gV.2 ⟨y,p,aa⟩,yy.1 h1⟩
def om.qb{o n:Nat}{ms}(h:om (o:Int) (n:Int) ms)(a:ms.length<=20):nF o n ms:=
 ⟨h.bd.2.1,h.bd.2.2,h.fits,afj h.lays h.bd.2.2,a⟩
def ae5{n ms}(h:Lays n (ms.map b8))i(a:0<=i):∀k,k<=(hQ ms).length->i<im ((hQ ms).take k)->∃m∈ms,hasB m i=aB
 |0,_,hi=>by grind[im]
 |k+1,hk,hi=>by
  obtain⟨x,hx⟩:∃x,(hQ ms)[k]?=ab x:=⟨_,cj ae⟩;have h1:=((E0 (h.perm (FB ms).symm) (CQ ms) _ hk).1 k x ae hx).1;have b:=BQ hx;by_cases hlt:i<im ((hQ ms).take k);·exact ae5 h i a k ae hlt
  .have c:=(FB ms).mem_iff.1 (gV.2 ⟨x,cL hx,aa⟩);grind[b8,yy]
def Lays.K5{n}{ms:List bG}(h:Lays n (ms.map b8))i(hi:i<n):∃m∈ms,hasB m (i:Int)=true:=by have h1:=Te (h.perm (FB ms).symm) (CQ ms);exact ae5 h (i:Int) ae (hQ ms).length (cm _) aF
theorem Lays.js{n ms}(h:Lays n (ms.map b8)){m}(c:m∈ms){x}(hx:hasB m x=aB)old:js old ms x=wV old x m:=by
 unfold Go.Proofs.YtcmhplknoglbkaaGreat.js;have f:(ms.find? (λm=>hasB m x)).isSome=true:=List.find?_isSome.2 ⟨m,c,hx⟩;obtain⟨y,a⟩:=Option.isSome_iff_exists.1 f;rw[a];have d:=List.find?_some a;have g:=ajY a;simp only at d⊢;suffices e:y=m by rw[e]
 obtain⟨i,hi,rfl⟩:=Kw.1 c;obtain⟨j,o,rfl⟩:=Kw.1 g;have l:=l3.1 (ya.1 h.apart);have h1:=yy.1 hx;have k:=yy.1 d;rcases Nat.lt_trichotomy i j with b|b|b;·grind[b8]
 .grind
 .grind[b8]
def adK{o n old ms}(d:old.length=o)(h:Lays n (ms.map b8)){m}(c:m∈ms)(b:jb o n m)(q:Nat)(f:m.to=(q:Int)):fN old m=(dF (fN old m).length).map (λj:Nat=>js old ms ((q+j:Nat):Int)):=by
 refine wM λj=>?_;by_cases a:j<(fN old m).length
 .have e:=G1 b d;rw[kB,Kt a];simp only[oW];rw[h.js c (yy.2 ⟨ae,ae⟩) _];unfold wV;unfold fN at a⊢;by_cases hk:m.k=1;·rw[if_pos hk]at a⊢;rw[if_pos hk,show(m.fr+((q+j:Nat):Int) -m.to).toNat=m.fr.toNat+j by have:=(b.1.copy hk).1;omega];grind
  .grind
 grind
def adO{o n old ms}(d:old.length=o)(h:Lays n (ms.map b8))(b:∀m∈ms,jb o n m):∀k,k<=(hQ ms).length->∃e:Nat,im ((hQ ms).take k)=(e:Int)/\(r6 ms ((hQ ms).take k)).flatMap (fN old)=nT old ms e
 |0,_=>⟨0,aS,aS⟩
 |k+1,hk=>by
  obtain⟨e,p,g⟩:=adO d h b k ae;obtain⟨x,hx⟩:∃x,(hQ ms)[k]?=ab x:=⟨_,cj ae⟩;have h1:=((E0 (h.perm (FB ms).symm) (CQ ms) _ hk).1 k x ae hx).1;have l:=BQ hx;have j:=ae4 (cL hx);obtain⟨m,a⟩:∃m,ms[x.1]?=ab m:=⟨_,cj j⟩;have c:=cL a
  have q:x.2.1=m.to/\x.2.2=cS m:=by obtain⟨i,_,rfl⟩:=gV.1 (cL hx);simp only at a;simp[mR,Mv,a]
  have hbl:=G1 (b m c) d;have f:=adK d h c (b m c) e ae;refine⟨e+(fN old m).length,ae,?_⟩;rw[fu,hx,yb,aeF a,List.flatMap_append,g];simp;rw[f];unfold nT;rw[List.range_add,gx,GM,gU,List.length_range];rfl
def atd{o n old ms}(c:old.length=o)(h:Lays n (ms.map b8))(b:∀m∈ms,jb o n m):vV old ms=nT old ms n:=by obtain⟨e,h1,a⟩:=adO c h b (hQ ms).length (cm _);rw[ik]at h1 a;rw[Te (h.perm (FB ms).symm) (CQ ms)]at h1;obtain rfl:n=e:=ae;rw[aeE]at a;exact a
def asD{a b q i}(h:q+b.length<=a.length)(h1:q<=i)(c:i<q+b.length):(ie a q b)[i]?=b[i -q]?:=by grind[ie]
def asE{a b q i}(h:q+b.length<=a.length)(h1:i<q\/q+b.length<=i):(ie a q b)[i]?=a[i]?:=by
 unfold ie;rcases h1 with h1|h1;·grind
 .rw[oe aF,dv,oT,Nat.min_eq_left ae,List.getElem?_drop];congr 1;omega
def zQ(old:List Int)(n:Nat)(f:Nat->Int)(y:bG)(q:Nat):Prop:=y.to=(q:Int)/\q+(fN old y).length<=n/\fN old y=(dF (fN old y).length).map (λj=>f (q+j))
def zQ.get{old n f y q}(h:zQ old n f y q){i}(h1:q<=i)(a:i<q+(fN old y).length):(fN old y)[i -q]?=ab (f i):=by rw[h.2.2,kB,Kt ae];simp only[oW];congr 2;omega
def adz{old n f i}(hi:i<n):∀(l:List bG) a,a.length=n->(∀y∈l,∃q,zQ old n f y q)->(a[i]?=ab (f i)\/∃y∈l,∃q,zQ old n f y q/\q<=i/\i<q+(fN old y).length)->(l.foldl (λa m=>ie a m.to.toNat (fN old m)) a)[i]?=ab (f i)
 |[],a,_,_,h=>h.elim id (λ⟨y,b,_⟩=>aF)
 |m::r,a,j,d,h=>by
  obtain⟨q,c⟩:=d m aT;have k:=c.2.1;have e:m.to.toNat=q:=by have:=c.1;omega
  refine adz hi r _ (by grind[Az]) (λy b=>d y aF) ?_;simp only;rw[e];by_cases hc:q<=i/\i<q+(fN old m).length;·exact bH (by rw[asD ae hc.1 hc.2];exact c.get hc.1 hc.2)
  .rw[asE ae ae];rcases h with h|⟨y,b,M3,hq',h1,h2⟩;·grind
   .rcases gy.1 b with rfl|b;·exfalso;have g:=hq'.1;omega
    .grind
def asV{old n f l}(c:∀y∈l,∃q,zQ old n f y q)(hc:∀i,i<n->∃y∈l,∃q,zQ old n f y q/\q<=i/\i<q+(fN old y).length):s3 old n l=(dF n).map f:=by
 have hlen:(s3 old n l).length=n:=by
  have key:∀(l:List _) a,a.length=n->(∀y∈l,∃q,zQ old n f y q)->(l.foldl (λa m=>ie a m.to.toNat (fN old m)) a).length=n:=by
   intro l;induction l with
   |nil=>simp
   |cons m r g=>
    intro a d h;refine g _ ?_ (λx hx=>h x aF);obtain⟨q,b⟩:=h m aT;have e:m.to.toNat=q:=by have:=b.1;omega
    have:=b.2.1;simp only;rw[e,Az ae];exact d
  exact key l _ aT c
 refine wM λi=>?_;by_cases hi:i<n;·rw[kB,Kt hi];exact adz hi l _ aT c (b1 (hc i hi))
 grind
def Qz(n:Int)(e:Int×Int):Prop:=(0<=e.1/\e.1<n)/\(0<=e.2/\e.2<n)/\e.1≠e.2
def arF{n E e x}:x∈G.pI n E e↔x∈E\/(x=e/\Qz n e):=by grind[G.pI,Qz,G.canAdd,G.p2]
def acN{n x}:∀{l E},x∈G.jj n E l↔x∈E\/(x∈l/\Qz n x)
 |[],E=>by simp[G.jj]
 |e::r,E=>by
  have h:G.jj n E (e::r)=G.jj n (G.pI n E e) r:=rfl;rw[h,acN,arF];constructor
  .rintro((h|⟨rfl,h⟩)|⟨h1,h2⟩);·exact bH h
   .exact b1 ⟨aT,h⟩
   .exact b1 ⟨by simp[h1],h2⟩
  .rintro(h|⟨h1,h2⟩);·exact bH (bH h)
   .rcases gy.1 h1 with rfl|h1;·exact bH (b1 ⟨aa,h2⟩)
    .exact b1 ⟨h1,h2⟩
theorem Hd{ms i j}:sK ms i j=aB↔∃m y,ms[i]?=ab m/\ms[j]?=ab y/\i≠j/\m.k=1/\meets (src m) (b8 y)=true:=by grind[sK]
def Jy(ms:List bG)(e:Int×Int):Prop:=∃i j:Nat,e=((i:Int),(j:Int))/\sK ms i j=aB
theorem Rs{ms i j}(h:sK ms i j=aB):i<ms.length/\j<ms.length/\i≠j:=by grind[Hd]
def MC{ms e}:e∈mi ms ms.length↔Jy ms e:=by unfold mi qV Jy;grind[Rs]
def acO{ms S}(p:S.Perm (iF (ms.map b8))){e}:e∈sH ms S↔Jy ms e:=by
 unfold sH;rw[acN]
 have o:∀i j:Nat,i<ms.length->(((i:Int),(j:Int))∈ym ms S i↔∃m y,ms[i]?=ab m/\ms[j]?=ab y/\m.k=1/\meets (src m) (b8 y)=aB):=λi j hi=>by
  obtain⟨m,c⟩:∃m,ms[i]?=ab m:=⟨_,cj hi⟩;by_cases hk:m.k=1
  .rw[Q9 c hk];unfold Fl parts;simp only[gV,nb];constructor
   .rintro⟨_,⟨_,⟨x,⟨hx,mG⟩,rfl⟩,rfl⟩,e⟩;injection e with bB b7;obtain⟨k,h1,d⟩:=Ar.1 (p.mem_iff.1 hx);have:k=j:=ae;subst this;rw[kB]at h1;cases hy:ms[k]? with
    |none=>grind
    |some y=>
     rw[hy]at h1;injection h1 with h1;exact⟨m,y,c,aa,hk,by rw[h1,E7];exact mG⟩
   .rintro⟨aU,y,yH,hy,_,mG⟩;rw[c]at yH;injection yH with yH;subst yH;exact⟨(j:Int),⟨((j:Int),kM (b8 y) (m.fr,m.n)),⟨(b8 y,(j:Int)),⟨p.mem_iff.2 (Ar.2 ⟨j,aF,aa⟩),by rw[E7];exact mG⟩,aa⟩,aa⟩,aa⟩
  grind[Q']
 constructor
 .rintro(h|⟨h,h1,d,l⟩);·grind
  .unfold l5 at h;obtain⟨i,hi,c⟩:=Kv.1 h;have hi':=nc.1 hi;obtain⟨a,b⟩:=e;simp only at h1 d l;obtain⟨j,rfl⟩:=tC d.1
   have r:a=(i:Int):=by
    obtain⟨m,s⟩:∃m,ms[i]?=ab m:=⟨_,cj hi'⟩;by_cases hk:m.k=1;·rw[Q9 s hk]at c;unfold Fl at c;grind
    .grind[Q']
   subst r;obtain⟨m,y,g1,g2,g,f⟩:=(o i j hi').1 c;exact⟨i,j,aa,Hd.2 ⟨m,y,g1,g2,ae,g,f⟩⟩
 .rintro⟨i,j,rfl,he⟩;obtain⟨h1,d,l⟩:=Rs he;obtain⟨m,y,g1,g2,g,f,q⟩:=Hd.1 he;refine b1 ⟨Kv.2 ⟨i,nc.2 h1,(o i j h1).2 ⟨m,y,g1,g2,f,q⟩⟩,⟨?_,?_,?_⟩⟩<;>simp only<;>omega
def Rt{ms E}(h:∀e,e∈E↔Jy ms e):G.Valid ms.length E:=λe a=>by obtain⟨i,j,rfl,hb⟩:=(h e).1 a;obtain⟨h1,b,c⟩:=Rs hb;refine⟨?_,?_,?_⟩<;>simp only<;>omega
def om.alP{o n:Nat}{ms}(h:om (o:Int) (n:Int) ms)(p:ms.length<=20):FT ms:=
 ⟨ae,⟨λe k=>by
   obtain⟨m,f,rfl⟩:=gV.1 k;have h1:=(h.fits m f).1.b8;exact⟨⟨h1.1,DH h1.2.1,h1.2.2⟩,h1.2.1⟩,λi j x y l hx c=>by
   rw[kB]at hx c;cases h1:ms[i]? with
   |none=>grind
   |some a=>
    cases d:ms[j]? with
    |none=>grind
    |some b=>
     rw[h1]at hx;rw[d]at c;injection hx with hx;injection c with c;rw[<-hx,<-c];exact h.ap i j a b l h1 d⟩,λm f hk=>by
   obtain⟨h1,d,g,_⟩:=(h.fits m f).1.copy hk;exact⟨h1,DH d,g⟩⟩
def adI{E v x}(h:G.Path E v x):∃y,(v,y)∈E:=TK h
structure Choice (ms:List bG) (S:List jQ) (o od ox:List Int):Prop where
 iE:Conv ms S o od
 Av:o.Nodup
 D6:∀x∈o,∃(i:Nat) (m:bG),x=(i:Int)/\ms[i]?=ab m/\m.k=1
 ord:G.mx (mi ms ms.length) ms.length [] ox
 free:decide (G.kp ms.length [] ox=[])=decide (o.length=0)
theorem acF{ms x}:x∈jX ms ms.length↔∃(i:Nat) (m:bG),x=(i:Int)/\ms[i]?=ab m/\m.k=2:=by unfold jX;grind[isLit]
def aly{o n:Nat}{ms}(h:om (o:Int) (n:Int) ms)(F:ms.length<=20):∃S ev od ox,Choice ms S ev od ox:=by
 have hc:=h.alP F;obtain⟨S,w,C⟩:=ZH hc.right;have g:=λe=>acO w (e:=e);have d:=Rt g
 have s:∀x y,(x,y)∈sH ms S->∃(i:Nat) (m:bG),x=(i:Int)/\ms[i]?=ab m/\m.k=1:=λx y c=>by obtain⟨i,j,e,hb⟩:=(g _).1 c;injection e with bB b7;obtain⟨m,y,g1,_,_,A,_⟩:=Hd.1 hb;exact⟨i,m,bB,g1,A⟩
 obtain⟨ev,xs,hch⟩:=G.alA d (ms.map (·.n)) (jX ms ms.length)
 have M:xs=[]:=by
  refine DM.2 λx hx=>?_;have h1:=hch.2.2;rw[G.QQ]at h1;have f:x∉G.kept xs (jX ms ms.length):=by rw[h1];simp
  rw[G.Tk]at f;have B:=U5 λI=>f ⟨hx,I⟩;obtain⟨y,r⟩:=adI ((hch.2.1.2 x).1 hx);obtain⟨i,m,rfl,H,hk⟩:=s x y (G.sX.1 r).1;obtain⟨N,P,e,l,hk2⟩:=acF.1 B;obtain rfl:i=N:=ae;rw[H]at l;injection l with l;subst l;omega
 subst M;obtain⟨od,v⟩:=G.adq (sH ms S) ms.length (jX ms ms.length++ev);obtain⟨bm,hx2⟩:=G.Hb d (jX ms ms.length++ev)
 have L:=DM.2 λx hx=>by
  have h1:=(hx2.2 x).1 hx
  have f:G.Path (G.cut _ ev) x x:=h1.mono λe c=>by obtain⟨a,b⟩:=e;obtain⟨g1,g2,z⟩:=G.sX.1 c;exact G.sX.2 ⟨g1,λh=>g2 (by simp[h]),λh=>z (by simp[h])⟩
  exact absurd ((hch.2.1.2 x).2 f) aT
 have J:=hch.1.nodup d;obtain⟨O,hx0⟩:=G.Hb d [];have t:=hch.1.amm hx0;obtain⟨ox,u⟩:=G.adq (mi ms ms.length) ms.length [];have D:=Rt (λe=>MC (ms:=ms) (e:=e))
 have K:G.kA (mi ms _) [] O:=⟨hx0.1,λx=>by rw[hx0.2 x,G.Ha,G.Ha];exact⟨λp=>p.mono λe c=>MC.2 ((g e).1 c),λp=>p.mono λe c=>(g e).2 (MC.1 c)⟩⟩;have E:=u.aea D K;refine⟨S,ev,od,ox,⟨hc,w,C,hch,v,(v.aea d hx2).2 L,?_⟩,J.1,λx hx=>?_,u,?_⟩;·have:=hch.1.length d;omega
 .have h1:=(hx0.2 x).1 (t x hx);rw[G.Ha]at h1;obtain⟨y,r⟩:=adI h1;exact s x y r
 .have:(G.kp ms.length [] ox=[])↔ev.length=0:=by
   rw[E,Qv];constructor;·rintro rfl;exact DM.2 λx hx=>absurd (t x hx) aT
   .rintro rfl;exact hx0.unique hch.2.1
  by_cases q:ev.length=0;·rw[decide_eq_true q,decide_eq_true (this.2 q)]
  .rw[decide_eq_false q,decide_eq_false (λh=>q (this.1 h))]
def Zm{o n old ev m i}(h:jb o n m)(c:old.length=o):b8 (jJ old ev i m)=b8 m:=by
 unfold jJ;by_cases hc:m.k=1/\(i:Int)∈ev;·rw[if_pos hc];obtain⟨h1,a,_⟩:=h.1.copy hc.1;have b:=h.2.1 hc.1;grind[b8,cS]
 .grind
theorem Rx{o n old ev m i}(h:jb o n m)(c:old.length=o):jb o n (jJ old ev i m):=by
 have a:=Zm (ev:=ev) (i:=i) h c;unfold jJ at a⊢;by_cases hc:m.k=1/\(i:Int)∈ev;·rw[if_pos hc]at a⊢;obtain⟨h1,d,_⟩:=h.1.copy hc.1;have e:=h.2.1 hc.1;have b:=h.1.b8;have f:=h.2.2;unfold b8 at a;injection a with _ a;have hlen:cS (⟨2,m.to,0,0,(old.drop m.fr.toNat).take m.n.toNat⟩:bG)=(((old.drop m.fr.toNat).take m.n.toNat).length:Int):=aS;rw[hlen]at a;refine⟨b1 ⟨aa,⟨b.1,ae,aF⟩,rfl,rfl,aF⟩,λhk=>absurd hk (show¬(2:Int)=1 by decide),ae⟩
 .grind
def Rw{old ev m i}:fN old (jJ old ev i m)=fN old m:=by grind[jJ,fN]
def anv{old ev m i}:(jJ old ev i m).to=m.to:=by grind[jJ]
theorem Np{old ev ms}i:(kd old ev ms)[i]?=(ms[i]?).map (jJ old ev i):=by grind[kd]
def I2{old ev ms}:(kd old ev ms).length=ms.length:=by grind[kd]
def aff{o n old ev ms}(a:∀m∈ms,jb o n m)(b:old.length=o):(kd old ev ms).map b8=ms.map b8:=by
 refine wM λi=>?_;rw[kB,kB,Np];cases hm:ms[i]? with
 |none=>rfl
 |some m=>
  simp only[oW];rw[Zm (a m (cL hm)) b]
def ES(m:bG):Bool:=decide (m.k=1)
def avh{l}(h:∀m∈l,m.k=1\/m.k=2):(l.filter ES++lits l).Perm l:=by
 have e:lits l=l.filter (λm=>!ES m):=List.filter_congr λm a=>by grind[ES]
 rw[e];exact List.filter_append_perm _ _
def Zs{o n m}(h:jb o n m):m.k=1\/m.k=2:=by
 rcases h.1 with h|h;·omega
 .omega
def acA(ms:List bG)(ev:List Int)(v:Int):Bool:=!decide (v∈jX ms ms.length++ev)
def ar7{N E s od}(h:G.mx E N s od)(b:G.kp N s od=[]):od.Perm ((G.dt N).filter (λv=>!decide (v∈s))):=by
 refine(List.perm_ext_iff_of_nodup h.1.nodup.1 ((G.Ap (G.CX N)).filter _)).2 λv=>?_;rw[nb,G.qN];constructor;·intro hv;obtain⟨h1,a⟩:=h.1.nodup.2 v hv;exact⟨h1,by simp[a]⟩
 .rintro⟨h1,a⟩;refine U5 λc=>?_;have:=G.Cw.2 ⟨h1,by simpa using a,c⟩;rw[b]at this;cases this
def afz j:G.dt (j+1)=G.dt j++[(j:Int)]:=by grind[G.dt,pE]
def adp{o n old ev ms}(a:∀m∈ms,jb o n m):∀j,j<=ms.length->((G.dt j).filter (acA ms ev)).filterMap (λx=>ms[x.toNat]?)=((kd old ev ms).take j).filter ES
 |0,_=>by rfl
 |j+1,e=>by
  obtain⟨m,b⟩:∃m,ms[j]?=ab m:=⟨_,cj ae⟩;have c:(kd old ev ms)[j]?=ab (jJ old ev j m):=by grind[Np]
  rw[afz,pC,List.filterMap_append,adp a j ae,fu,c,pC];congr 1;have f:(j:Int)∈jX ms ms.length↔m.k=2:=by grind[acF]
  have hk:=Zs (a m (cL b));unfold acA jJ ES;simp only[List.mem_append,yb];by_cases d:m.k=1;·grind
  .grind
def ass{o n old ev od ms S}(a:∀m∈ms,jb o n m)(hc:Conv ms S ev od):(fD ms od).Perm ((kd old ev ms).filter ES):=by have h1:=adp (old:=old) (ev:=ev) a _ (cm _);rw[<-I2 (old:=old) (ev:=ev),ik,I2]at h1;rw[<-h1];exact(ar7 hc.ord hc.all).filterMap _
def ari{o n old ev ms}(e:∀m∈ms,jb o n m)(k:old.length=o)(p:Lays n (ms.map b8)):∃rs,Bs old ms ev rs:=by
 obtain⟨L,c⟩:=ex (lits (kd old ev ms))
 have hap:L.Pairwise (λx y=>x.to+cS x<=y.to\/y.to+cS y<=x.to):=by rw[<-c];have h1:=p.apart;rw[<-aff (ev:=ev) e k,ya]at h1;exact Xx _ h1
 have l:∀m∈L,0<cS m:=λm g=>by rw[<-c]at g;obtain⟨i,x,hx,rfl⟩:=I3 (nb.1 g).1;exact(Rx (e x (cL hx)) k).1.b8.2.1
 have b:(oJ L).Perm L:=by
  unfold oJ;refine((adn L).filterMap _).trans (ajS ?_)
  have key:∀j,j<=L.length->(dF j).filterMap (λi=>L[i]?)=L.take j:=by
   intro j;induction j with
   |zero=>simp
   |succ j t=>grind[pE,fu]
  rw[key _ (cm _),ik]
 refine⟨oJ L,aF,?_⟩;have d:=(b.symm.pairwise_iff (λh=>h.symm)).1 hap;have hle:(oJ L).Pairwise (λx y=>x.to<=y.to):=by grind[oJ,ado,mR]
 rw[l3]at d hle⊢;intro i j hi a f;have h1:=d i j hi a f;have q:=hle i j hi a f;have r:=l _ (b.mem_iff.1 (DQ hi));have s:=l _ (b.mem_iff.1 (DQ a));omega
def alY{o n old ev od ms rs S}(a:∀m∈ms,jb o n m)(c:old.length=o)(hc:Conv ms S ev od)(hr:Bs old ms ev rs):(fD ms od++rs).Perm (kd old ev ms):=
 ((ass a hc).append hr.perm).trans (avh λm b=>by obtain⟨i,x,hx,rfl⟩:=I3 b;exact Zs (Rx (a x (cL hx)) c))
def alW{o n old ev}{ms l:List bG}(a:∀m∈ms,jb o n m)(b:old.length=o)(c:l.Perm (kd old ev ms)):∀m∈l,jb o n m:=by grind[I3,Rx,cL]
def al1{o n old ev ms l}(c:∀m∈ms,jb o n m)(d:old.length=o)(f:Lays n (ms.map b8))(a:l.Perm (kd old ev ms))(e:ms.length<=20)(h1:(o:Int)<=4611686018427387903)(b:(n:Int)<=4611686018427387903):nF o n l:=
 ⟨h1,b,alW c d a,afj (f.perm (by rw[<-aff (ev:=ev) c d];exact(a.map _).symm)) b,by rw[a.length_eq,I2];exact e⟩
def alX{o n old ev ms l}(c:∀m∈ms,jb o n m)(g:old.length=o)(k:Lays n (ms.map b8))(r:l.Perm (kd old ev ms)):s3 old n l=nT old ms n:=by
 have s:∀(i) m,ms[i]?=ab m->∃q,zQ _ n (λi:Nat=>js _ ms _) (jJ _ ev i m) q/\m.to=(q:Int):=λi m b=>by have d:=cL b;obtain⟨q,a,h1,_⟩:=(c m d).at g;have h:=adK g k d (c m d) q a;exact⟨q,⟨by rw[anv];exact a,by rw[Rw];exact h1,by rw[Rw];exact h⟩,a⟩
 refine asV (f:=λi:Nat=>js _ ms _) (λy t=>?_) (λi hi=>?_);·obtain⟨j,m,b,rfl⟩:=I3 (r.mem_iff.1 t);obtain⟨q,a,_⟩:=s j m b;exact⟨q,a⟩
 .obtain⟨m,b,hb⟩:=k.K5 i hi;obtain⟨j,p⟩:=oU.1 b;obtain⟨q,a,e⟩:=s j m p;have h1:=yy.1 hb;have h:=G1 (c m b) g;refine⟨_,r.mem_iff.2 (cL (by rw[Np,p];rfl)),q,a,ae,?_⟩;rw[Rw];omega
def al5{a b}(h:a.Perm b):lv a=lv b:=by
 unfold lv;induction h with
 |nil=>rfl
 |cons x _ d=>grind
 |swap x y l=>grind
 |trans _ _ h1 c=>omega
def aog{ms a b}(h:a.Perm b):ni ms a=ni ms b:=by
 unfold ni;induction h with
 |nil=>rfl
 |cons x _ d=>grind
 |swap x y l=>grind
 |trans _ _ h1 c=>omega
def afi{old ev ms}(c:∀x∈ev,∃(i:Nat) (m:bG),x=(i:Int)/\ms[i]?=ab m/\m.k=1):∀j,j<=ms.length->lv ((kd old ev ms).take j)+ni ms ((G.dt j).filter (λv=>decide (v∈ev)))=lv (ms.take j)
 |0,_=>by rfl
 |j+1,o=>by
  have l:=afi (old:=old) c j ae;obtain⟨m,d⟩:∃m,ms[j]?=ab m:=⟨_,cj ae⟩;have h:(kd old ev ms)[j]?=ab (jJ old ev j m):=by grind[Np]
  rw[Re h,Re d,<-l,afz,pC];by_cases b:(j:Int)∈ev
  .obtain⟨i,p,e,a,hk⟩:=c _ b;obtain rfl:i=j:=ae;rw[d]at a;injection a with a;subst a
   have h1:nJ (jJ old ev i m)=0:=by rw[show jJ _ ev i m=⟨2,_,0,0,_⟩from if_pos ⟨hk,b⟩];exact if_neg (show¬(2:Int)=1 by decide)
   have f:nJ m=m.n:=if_pos hk;have g:Cx ms (i:Int)=m.n:=by grind[Cx]
   rw[h1,f];simp only[ni,gx,List.sum_append,List.filter_cons,b,decide_true,if_true,List.filter_nil,jx,List.map_nil,List.sum_cons,List.sum_nil,g];omega
  .have h1:jJ old ev j m=m:=by grind[jJ]
   grind
def al0{old ev ms l}(b:∀x∈ev,∃(i:Nat) (m:bG),x=(i:Int)/\ms[i]?=ab m/\m.k=1)(d:ev.Nodup)(c:l.Perm (kd old ev ms)):lv l=lv ms -ni ms ev:=by
 have h1:=afi (old:=old) b _ (cm _);rw[ik,<-I2 (old:=old) (ev:=ev),ik,I2]at h1;have a:ev.Perm ((G.dt ms.length).filter (λv=>decide (v∈ev))):=by grind[G.Ap,G.CX,G.qN]
 rw[al5 c,aog a];omega
def TD{ms}:∀{od},(∀x∈od,∃i:Nat,x=(i:Int)/\i<ms.length)->∀(j:Nat) m,(fD ms od)[j]?=ab m->∃a:Nat,od[j]?=ab (a:Int)/\ms[a]?=ab m
 |[],_,j,m,h=>by grind[fD]
 |x::r,hx,j,m,h=>by
  obtain⟨i,rfl,hi⟩:=hx x aT
  have e:fD ms ((i:Int)::r)=ms[i]::fD ms r:=by unfold fD;rw[List.filterMap_cons,DI,cj hi]
  rw[e]at h;cases j with
  |zero=>
   refine⟨i,aa,?_⟩;rw[cj hi];exact h
  |succ j=>exact TD (λy b=>hx y (by simp[b])) j m h
def arl{l m}(h:m∈lits l):m.k=2:=of_decide_eq_true (nb.1 h).2
def asv{E N s od}(h:G.kl E N s od){i j:Nat}{a b}(c:od[i]?=ab a)(hb:od[j]?=ab b)(d:(a,b)∈E):i<j:=by obtain⟨f,e⟩:=eQ.1 hb;obtain⟨hi,hai⟩:=eQ.1 c;have h1:=(h.at (od.take j) b (od.drop (j+1)) (by grind[List.getElem_cons_drop,List.take_append_drop])).1.2.2.2 a d;have g:=h.nodup;grind[oU,XD]
def alZ{o n old ev od ms rs S}(s:∀m∈ms,jb o n m)(hc:Conv ms S ev od)(hr:Bs old ms ev rs)(f:∀x∈od,∃i:Nat,x=(i:Int)/\i<ms.length):
 ∀(i j:Nat) (m y),j<i->(fD ms od++rs)[i]?=ab m->(fD ms od++rs)[j]?=ab y->m.k=1->∀off,m.fr<=off->off<m.fr+m.n->hasB y off=false:=λi j m y t c g hk off h1 q=>by
 have hi:i<(fD ms od).length:=by refine U5 λu=>?_;rw[oe ae]at c;have:=arl (hr.perm.mem_iff.1 (cL c));omega
 rw[tD hi]at c;rw[tD ae]at g;obtain⟨a,d,l⟩:=TD f i m c;obtain⟨b,hb,p⟩:=TD f j y g;refine af4.2 λhh=>?_;have r:=yy.1 hh
 have hab:a≠b:=λe=>by subst e;have:=(XD (eQ.1 d).1 hc.ord.1.nodup.1).1 (d.trans hb.symm);omega
 have h:=(acO hc.perm).2 ⟨a,b,aa,Hd.2 ⟨m,y,l,p,hab,hk,by grind[meets,src,b8]⟩⟩;have:=asv hc.ord.1 d hb h;omega
def auH{l}(g:∀(i j:Nat) (m y),j<i->l[i]?=ab m->l[j]?=ab y->m.k=1->∀off,m.fr<=off->off<m.fr+m.n->hasB y off=au):AH l=(0,0):=by
 have h:qU l=l.length:=adR λi hi=>by
  unfold xv;rw[cj hi];simp only;unfold CL;refine af4.2 λhr=>?_;simp only[v8,decide_eq_true_eq,List.any_eq_true]at hr;obtain⟨hk,e,b,d⟩:=hr;obtain⟨y,o,rfl⟩:=gV.1 b;obtain⟨j,a⟩:=oU.1 o;rw[tE]at a;split at a;·rename_i c;have f:=of_decide_eq_true d;simp only[b8]at f;have:=g i j _ y c (cj hi) a hk (max (l[i]).fr y.to) ae ae;rw[yy.2 ⟨ae,ae⟩]at this;cases this
  .cases a
 unfold AH;rw[h,if_neg (Nat.lt_irrefl _)]
def alb{old ms}(h1:jG old)(a:∀m∈ms,jG m.data)n:jG (nT old ms n):=by grind[nT,jG,cL,js,hasB,wV,ajY]
def avx{o}{n:Nat}{old ms}(hb1:jG old)(hb2:∀m∈ms,jG m.data)(q:old.length<=300)(d:ms.length<=20)(h:om o (n:Int) ms)(k:o=(old.length:Int)):∃S ev od rs ox,XT old ms n S ev od rs ox:=by
 subst k;have a:=h.fits;have b:=h.lays;obtain⟨S,ev,od,ox,hc⟩:=aly h d;obtain⟨rs,hr⟩:=ari (ev:=ev) a aa b
 have g:∀x∈od,∃i:Nat,x=(i:Int)/\i<ms.length:=λx hx=>by obtain⟨h1,_⟩:=hc.iE.ord.1.nodup.2 x hx;exact⟨x.toNat,ae,ae⟩
 have f:=alY a aa hc.iE hr
 have j:=alZ a hc.iE hr g
 refine⟨S,ev,od,rs,ox,h.qb d,b.K5,atd aa b a,⟨hc.iE,g,?_,λm c hk=>?_,hr⟩,al1 a aa b f d h.bd.2.1 h.bd.2.2,auH j,j,alX a aa b f,al0 hc.D6 hc.Av f,λx hx=>?_,Rt (λe=>MC),hc.ord,hc.free,alb hb1 hb2 n⟩
 .have:=hc.iE.ord.1.length;omega
 .obtain⟨h1,l,_⟩:=(a m c).1.copy hk;have p:=(a m c).2.1 hk;exact⟨m.fr.toNat,m.n.toNat,ae,ae,ae⟩
 .obtain⟨i,m,rfl,c,_⟩:=hc.D6 x hx;exact⟨i,aa,(eQ.1 c).1⟩
end Go.Proofs.YtcmhplknoglbkaaGreat
