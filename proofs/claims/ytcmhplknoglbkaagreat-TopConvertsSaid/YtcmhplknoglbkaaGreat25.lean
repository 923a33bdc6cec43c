/- Part 25 of the proof of TopConvertsSaid. -/
import Derived.Test.YtcmhplknoglbkaaGreat0
import Derived.Test.YtcmhplknoglbkaaGreat6
import Derived.Test.YtcmhplknoglbkaaGreat23
import Derived.Test.YtcmhplknoglbkaaGreat24
set_option linter.all false
set_option maxRecDepth 100000
set_option maxHeartbeats 4000000
open Go.Proofs.Tryz
open Bool renaming false->au
open Go renaming Addr->bW,Calls->aD,Value->aP,bodyPost_ret->dp,callFunc->kj,wpList_nil->ak,wp_region_lit->ar
open Go.Ending renaming returned->aA
open Go.Fn renaming func->ek
open Go.IntKind renaming i64->R,u64->aH
open Go.Operand renaming tmp->bc
open Go.Proofs.Tryz renaming func215->agk,func216->agl,func217->agm,func408->agH,ntmps215->ag9,ntmps216->aha,prog->ax,underlying137->OE,underlying235->xD
open Go.RowKit renaming intOf->cx
open Go.Value renaming agg->av,bool->aj,func->dK,int->J,pointer->ay,slice->ad
open List renaming append_assoc->j5,filter_append->pz,filter_eq_self->zo,findIdx?_eq_some_iff_getElem->P3,getElem?_append_left->tB,getElem?_append_right->oa,getElem?_eq_getElem->cm,getElem?_eq_some_iff->eR,length_append->dw,mem_iff_getElem?->oQ,mem_of_getElem?->cM,size_toArray->iR,take_add_one->fv,take_length->il
open Nat renaming zero_add->kV,zero_le->cQ
open Option renaming none->af,some->ab
namespace Go.Proofs.YtcmhplknoglbkaaGreat
open Go.RowKit Go.MapKept
def KW{a:Type}{L:List a}{p j x}(hx:L[j]?=ab x)(b:p x=true)(hb:∀(i) y,i<j->L[i]?=ab y->p y=au):L.findIdx? p=ab j:=by grind[P3]
theorem KV{a:Type}{L:List a}{p}(hb:∀(i:Nat) y,L[i]?=ab y->p y=au):L.findIdx? p=none:=by grind[oQ]
abbrev RecM:=Rec×Option bW×Nat
def fW(l:List RecM):List Value:=l.flatMap (λx=>[J aH x.1.seq,J aH x.1.id,J R x.1.cur,J R x.1.off,ad x.2.1 x.1.data.length x.2.2])
theorem It L:(fW L).length=L.length*5:=by
 induction L with
 |nil=>rfl
 |cons x L a=>grind[fW]
def E7(L a):fW (L++a)=fW L++fW a:=List.flatMap_append
def TB x:fW [x]=([J aH x.1.seq,J aH x.1.id,J R x.1.cur,J R x.1.off,ad x.2.1 x.1.data.length x.2.2]:List aP):=rfl
def as1 L j x(hx:L[j]?=ab x):fW L=fW (L.take j)++(([J aH x.1.seq,J aH x.1.id,J R x.1.cur,J R x.1.off,ad x.2.1 x.1.data.length x.2.2]:List aP)++fW (L.drop (j+1))):=by obtain⟨a,hx⟩:=eR.1 hx;rw[<-TB,<-E7,<-E7];congr 1;subst hx;simp
def TA L j x(hx:L[j]?=ab x):∀(i) v,(([J aH x.1.seq,J aH x.1.id,J R x.1.cur,J R x.1.off,ad x.2.1 x.1.data.length x.2.2]:List aP):List aP)[i]?=ab v->(fW L)[j*5+i]?=ab v:=λi v hv=>by
 have b:=(eR.1 hx).1;have hi:i<5:=(eR.1 hv).1;have a:(fW (L.take j)).length=j*5:=by grind[It]
 rw[as1 L j x hx,oa ae,a,show j*5+i -j*5=i by omega,tB ae];exact hv
def yN(L:List RecM)(p:RecM->Bool):Int:=match L.findIdx? p with|some k=>(k:Int)|none=>-1
def asZ A (c g:Nat) lb L p w (G:L.length<=1073741824) (hr:Row 0 w A L.length c 137 5 (fW L)) (q:∀args w,(kj g args).run ax w=.ok (.enter g args) w)
 (hp:∀x W,x∈L->ao w W->aD ax g (#[av #[J aH x.1.seq,J aH x.1.id,J R x.1.cur,J R x.1.off,ad x.2.1 x.1.data.length x.2.2]]++lb) W λe w'=>e=aA (aj (p x))/\ao W w'):
 aD ax 285 #[ad A L.length c,dK (ek g) #[] lb] w λe w'=>e=aA (J R (yN L p))/\ao w w':=by
 have E:=hr;obtain⟨hlen,_⟩:=E;have u:=hid q;have z:=hid hp;have o:Hid (∀W,ao w W->Row 0 W A L.length c 137 5 (fW L)):=hid (λW g=>Ik hr g);clear hr q hp hlen;go_enter func285,ntmps285;have a:=bg w;go_upto_region 0 with fail;refine ar ?_;refine ag ?_;refine aF ?_;refine v3 ?_;refine ak ?_;go_wp2_with fail;go_loopw [8] (λk wr=>∃j:Nat,j<=L.length/\k=J R (j:Int)/\(∀(i:Nat) (x:RecM),i<j->L[i]?=ab x->p x=au)/\ai w (λ_=>False) wr []) (λk wr=>L.length -(cx k).toNat);case atStart=>grind
 case round=>
  clear a;obtain⟨j,H,rfl,s,a⟩:=hrel;by_cases hlt:j<L.length
  .have D:(j:Int)<(L.length:Int):=ae;obtain⟨x,hx⟩:∃x,L[j]?=ab x:=⟨_,cm hlt⟩;obtain⟨d,cur,r,C,_,_,_,_⟩:=(o.out _ a.only).blk ae;obtain⟨iL,t⟩:=ex (p x);have F:=cM hx;have B:=hid (TA L j x hx);have n:=hid hx;have b:=hid t;have m:=hid s;have l:=hid r;clear hx t s C r;go_upto_region 2 with fail;refine ar ?_;refine ag ?_;refine aF ?_;refine v2 ?_;refine jt ?_;refine aJ (ay (ab ⟨d,(j*5),af⟩)) (cI 235 137 5 (bc 12) (bc 13) aa xD aw d 0 (L.length) c j ((j*5)) (by show ad A _ _=_;rw[l.out]) aa hlt ae) ?_;refine aJ _ (by(refine e7 _ _ aa d _ aa _ (Row.range (o.out _ a.only) l.out (λi v hi=>B.out i v hi)) OE aa aw)) ?_;refine bC ((by have h:=z.out x _ F a.only;rw[b.out]at h;exact h)) a (λw1 a=>?_) (hr:=by(go_simp;exact u.out _ _));refine ak ?_;cases iL with
   |true=>
    refine aF ?_;refine dQ ?_;go_wp2_with fail;go_ret;exact⟨by rw[show yN L p=(j:Int)from by unfold yN;rw[show L.findIdx? p=ab j from KW n.out b.out m.out]];rfl,a.only⟩
   |false=>
    refine aF ?_;refine pad (j:Int) 1 ((j+1:Nat):Int) ?_;refine bR ?_;go_wp2_with fail;go_roundw;case rel=>exact⟨j+1,ae,rfl,λi y hi f=>by rcases Nat.lt_succ_iff_lt_or_eq.1 hi with h|rfl;exact m.out i y h f;rw[n.out]at f;cases f;exact b.out,a⟩
    case measure=>simp[cx]<;>omega
  .have D:¬(j:Int)<(L.length:Int):=ae;obtain rfl:j=L.length:=ae;go_upto_region 2 with fail;refine ar ?_;refine ag ?_;refine aF ?_;refine ag ?_;refine ak ?_;go_wp2_with fail;go_ret;exact⟨by rw[show yN L p=-1 from by grind[yN,KV]];rfl,a.only⟩
def asY A (c g:Nat) lb L (p:RecM->Bool) w (cj:L.length<=1073741824) (hr:Row 0 w A L.length c 137 5 (fW L)) (B:∀args w,(kj g args).run ax w=.ok (.enter g args) w)
 (hp:∀x W,x∈L->aq (dV A) w W->aD ax g (#[av #[J aH x.1.seq,J aH x.1.id,J R x.1.cur,J R x.1.off,ad x.2.1 x.1.data.length x.2.2]]++lb) W λe w'=>e=aA (aj (p x))/\ao W w'):
 aD ax 215 #[ad A L.length c,dK (ek g) #[] lb] w λe w'=>∃P,e=aA (ad P (L.filter (λx=>!p x)).length c)/\Turned w w' (bp A L.length c 137 5 (fW L)) (bp P (L.filter (λx=>!p x)).length c 137 5 (fW (L.filter (λx=>!p x)))):=by
 have U:=hid B;have D:0<L.length->_:=λh=>hr.blk h;obtain⟨N,K⟩:=ex (yN L p);have X:Hid (∀W,aq (dV A) w W->Row 0 W A L.length c 137 5 (fW L)->aD ax 285 #[ad A L.length c,dK (ek g) #[] lb] W λe w'=>e=aA (J R N)/\ao W w'):=hid (λW o h=>by have q:=asZ A c g lb L p W cj h B (λx fw hx g2=>hp x fw hx (o.trans g2.to (λ_ _ h=>h)));rw[K]at q;exact q);have Y:=hid hp;have hr1:=hid hr;have HR:=hid (λb (hb:dV A b)=>(Row.lt hr hb).2);by_cases B2:N=-1;clear B hp
 .subst B2;have hno:L.filter (λx=>!p x)=L:=by grind[zo,yN]
  rw[hno];clear hno K D hr;go_enter agk,ag9;have a:=ai.start (t:=bp A L.length c 137 5 (fW L)) ⟨hr1.out,HR.out⟩;go_upto_region 0 with fail;refine ar ?_;refine ku ?_;refine bC (X.out _ a.only (a.at 0)) a (λw1 a=>?_);refine cK ?_;refine pk (aj true) ?_;refine aF ?_;refine dQ ?_;go_wp2_with fail;go_ret;exact⟨A,aa,a.gj 0⟩
 .obtain⟨d,pR⟩:∃d,L.findIdx? p=ab d:=by grind[yN]
  have RO:N=(d:Int):=by grind[yN]
  subst RO;obtain⟨jm,ud,hb1⟩:=P3.1 pR;obtain⟨G,cur,rfl,kI,iI,hcm,hcs,E⟩:=D ae;have aoQ:¬(d:Int)=-1:=ae;have RL:(L.take d).filter (λx=>!p x)=L.take d:=by grind[zo,oQ]
  have hx1:L[d]?=ab L[d]:=cm jm
  have hst:∃f fc,cur=(fW ((L.take (d+1)).filter (λx=>!p x))++(f++(fW (L.drop (d+1))++fc))).toArray/\f.length=5/\((L.take (d+1)).filter (λx=>!p x)).length=d:=by
   have bD:(L.take (d+1)).filter (λx=>!p x)=L.take d:=by grind[fv]
   refine⟨fW [L[d]],cur.toList.drop (L.length*5),?_,aT,aG⟩;rw[bD,<-j5,<-j5,<-E7,<-E7,show L.take d++[L[d]]++L.drop _=L by simp,<-E,List.take_append_drop]
  obtain⟨f,fc,Hi,fm,l⟩:=hst;have anO:∀b,dV (ab (⟨G,0,af⟩:bW)) b->b=G:=λb ⟨off,sp,e⟩=>by grind
  have hsz:cur.size=c*5:=hcs;have jK:fc.length+L.length*5=c*5:=by grind[It]
  have PK:=hid jK;have r:=hid iI;have Q:=hid hcm;have qo:=hid hsz;have mv:=hid Hi;have Pc:=hid E;have ln:=hid kI;clear jK K pR hb1 RL ud hx1 iI hcm hcs E D hr kI hsz Hi;go_enter agk,ag9;have a:ai w (dV (ab (⟨G,0,af⟩:bW))) w [ah G cur 137]:=(ai.start (t:=bp (ab (⟨G,0,af⟩:bW)) L.length c 137 5 (fW L)) ⟨hr1.out,HR.out⟩).as 0 aa _ (λ_=>ln.out) (λb hb=>⟨0,af,by rw[show b=G from hb]⟩);go_upto_region 0 with fail;refine ar ?_;refine ku ?_;refine bC (X.out _ a.only (by have h:=Iw (n:=L.length) (a.a1 0) r.out Q.out qo.out;rw[show cur.toList.take (L.length*5)=fW L from Pc.out]at h;exact h)) a (λaS a=>?_);refine cK ?_;refine cd (aj au) ?_;refine b6 ?_;refine pad (d:Int) 1 ((d+1:Nat):Int) ?_;refine bR ?_;have ca:=a;rw[mv.out]at a;go_wp2_with fail;go_loopw [5,6] (λaW O wr=>∃(i j:Nat) (f:List aP),i<j/\j<=L.length/\aW=J R (i:Int)/\O=J R (j:Int)/\((L.take j).filter (λx=>!p x)).length=i/\f.length+i*5=j*5/\ai w (dV (ab (⟨G,0,af⟩:bW))) wr [ah G (fW ((L.take j).filter (λx=>!p x))++(f++(fW (L.drop j)++fc))).toArray 137]) (λaW O wr=>L.length -(cx O).toNat);case atStart=>exact⟨d,d+1,_,ae,ae,aa,aa,l,ae,a⟩
  case round=>
   clear a ca l fm;obtain⟨i,j,f,hL,hj,rfl,rfl,l,fm,a⟩:=hrel;by_cases hlt:j<L.length
   .have cJ:(j:Int)<(L.length:Int):=ae;obtain⟨x,hx⟩:∃x,L[j]?=ab x:=⟨_,cm hlt⟩;have kK:=cM hx;obtain⟨iL,oA⟩:=ex (p x);have hdr:fW (L.drop j)=([J aH x.1.seq,J aH x.1.id,J R x.1.cur,J R x.1.off,ad x.2.1 x.1.data.length x.2.2]:List aP)++fW (L.drop (j+1)):=by rw[<-TB,<-E7];congr 1;obtain⟨h1,rfl⟩:=eR.1 hx;simp
    obtain⟨pre,M⟩:=ex (fW ((L.take j).filter (λx=>!p x)));have Sf:pre.length=i*5:=by grind[It]
    obtain⟨eb,I⟩:=ex (fW (L.drop (j+1)));rw[hdr,M,I]at a
    have w0:∀(k:Nat) (v:aP),(([J aH x.1.seq,J aH x.1.id,J R x.1.cur,J R x.1.off,ad x.2.1 x.1.data.length x.2.2]:List aP):List aP)[k]?=ab v->(pre++(f++(([J aH x.1.seq,J aH x.1.id,J R x.1.cur,J R x.1.off,ad x.2.1 x.1.data.length x.2.2]:List aP)++eb++fc)))[j*5+k]?=ab v:=λk v hk=>by have aos:k<5:=(eR.1 hk).1;rw[oa ae,oa ae,j5,tB (by show _<5;omega),show j*5+k -pre.length -f.length=k by omega];exact hk
    have Z:=hid Sf;have tx:=hid w0;have u:=hid hx;have s:=hid oA;have wu:=hid M;have T:=hid I;have m:=hid l;have ah1:=hid hdr;clear hx oA M I hdr w0 l;go_upto_region 5 with fail;refine ar ?_;refine v4 ?_;refine jb ?_;refine aJ (ay (ab ⟨G,(j*5),af⟩)) (cI 235 137 5 (bc 22) (bc 23) aa xD aw G 0 (L.length) c j ((j*5)) aa aa hlt ae) ?_;refine aJ _ (by(refine e7 _ _ aa G _ aa _ ((a.a1 0).rangeAt _ _ (λk v hk=>by rw[List.getElem?_toArray];exact tx.out k v hk)) OE aa aw)) ?_;refine bA a #[J aH 0,J aH 0,J R 0,J R 0,ad af 0 0] (λfM bN a=>?_);refine ba a 0 (av #[J aH x.1.seq,J aH x.1.id,J R x.1.cur,J R x.1.off,ad x.2.1 x.1.data.length x.2.2]) (λcc a=>?_);refine ak ?_;cases iL with
    |true=>
     refine b6 ?_;refine bt a 0 #[J aH x.1.seq,J aH x.1.id,J R x.1.cur,J R x.1.off,ad x.2.1 x.1.data.length x.2.2] ?_;refine bC ((by have h:=Y.out x _ kK a.only;rw[s.out]at h;exact h)) a (λcG a=>?_) (hr:=by(first|(go_simp;done)|(go_simp;exact U.out _ _)));refine cK ?_;refine pad (j:Int) 1 ((j+1:Nat):Int) ?_;refine bR ?_;go_wp2_with fail;go_roundw;case rel=>exact⟨i,j+1,f++([J aH _,J aH _,J R _,J R _,ad x.2.1 _ x.2.2]:List _),ae,ae,aa,aa,by rw[show(L.take _).filter (λx=>!p x)=(L.take j).filter (λx=>!p x)from by rw[fv,u.out,pz];simp[s.out]];exact m.out,by rw[dw];show f.length+5+_=_;omega,by rw[show(L.take _).filter (λx=>!p x)=(L.take j).filter (λx=>!p x)from by rw[fv,u.out,pz];simp[s.out],wu.out,T.out];have h:ai _ _ _ [ah G (pre++(f++(([J aH x.1.seq,J aH x.1.id,J R x.1.cur,J R x.1.off,ad x.2.1 x.1.data.length x.2.2]:List aP)++eb++fc))).toArray 137]:=a.pick [1];simpa using h⟩
     case measure=>simp[cx]<;>omega
    |false=>
     refine b6 ?_;refine bt a 0 #[J aH x.1.seq,J aH x.1.id,J R x.1.cur,J R x.1.off,ad x.2.1 x.1.data.length x.2.2] ?_;refine bC ((by have h:=Y.out x _ kK a.only;rw[s.out]at h;exact h)) a (λc6 a=>?_) (hr:=by(first|(go_simp;done)|(go_simp;exact U.out _ _)));refine ku ?_;refine bt a 0 #[J aH x.1.seq,J aH x.1.id,J R x.1.cur,J R x.1.off,ad x.2.1 x.1.data.length x.2.2] ?_;refine aJ _ (cI 235 137 5 _ _ aa xD aw G 0 _ c i ((i*5)) aa aa ae ae) ?_;refine My a 1 (Fi (cs':=(pre++(([J aH x.1.seq,J aH x.1.id,J R x.1.cur,J R x.1.off,ad x.2.1 x.1.data.length x.2.2]:List aP)++(f++(([J aH x.1.seq,J aH x.1.id,J R x.1.cur,J R x.1.off,ad x.2.1 x.1.data.length x.2.2]:List aP)++eb++fc)).drop 5)).toArray) (av #[J aH x.1.seq,J aH x.1.id,J R x.1.cur,J R x.1.off,ad x.2.1 x.1.data.length x.2.2]) aa aa aa (a.a1 1) (by show i*5+5<=_;rw[iR,dw,dw,dw,dw,Z.out];show _<=_+(_+(5+_+_));omega) aw aw (by have e:=Cc ([J aH x.1.seq,J aH x.1.id,J R x.1.cur,J R x.1.off,ad x.2.1 x.1.data.length x.2.2]:List aP) pre (f++(([J aH x.1.seq,J aH x.1.id,J R x.1.cur,J R x.1.off,ad x.2.1 x.1.data.length x.2.2]:List aP)++eb++fc)) (by rw[dw,dw,dw];show 5<=_+(5+_+_);omega);rw[Z.out]at e;exact e)) (λdX a=>?_);refine b6 ?_;refine pad (i:Int) 1 ((i+1:Nat):Int) ?_;refine cK ?_;refine pad (j:Int) 1 ((j+1:Nat):Int) ?_;refine bR ?_;go_wp2_with fail;go_roundw;case rel=>exact⟨i+1,j+1,(f++([J aH x.1.seq,J aH x.1.id,J R x.1.cur,J R x.1.off,ad x.2.1 x.1.data.length x.2.2]:List aP)).drop 5,ae,ae,aa,aa,by rw[(show(L.take _).filter (λx=>!p x)=(L.take j).filter (λx=>!p x)++[x]from by rw[fv,u.out,pz];simp[s.out]),dw,m.out];rfl,by rw[List.length_drop,dw];show f.length+5 -5+_=_;omega,by rw[(show(L.take _).filter (λx=>!p x)=(L.take j).filter (λx=>!p x)++[x]from by rw[fv,u.out,pz];simp[s.out]),E7,wu.out,TB,T.out];have h:ai _ _ _ [ah G (pre++(([J aH x.1.seq,J aH x.1.id,J R x.1.cur,J R x.1.off,ad x.2.1 x.1.data.length x.2.2]:List aP)++(f++(([J aH x.1.seq,J aH x.1.id,J R x.1.cur,J R x.1.off,ad x.2.1 x.1.data.length x.2.2]:List aP)++eb++fc)).drop 5)).toArray 137]:=a.pick [1];rw[show pre++(([J aH x.1.seq,J aH x.1.id,J R x.1.cur,J R x.1.off,ad x.2.1 x.1.data.length x.2.2]:List aP)++(f++(([J aH x.1.seq,J aH x.1.id,J R x.1.cur,J R x.1.off,ad x.2.1 x.1.data.length x.2.2]:List aP)++eb++fc)).drop 5)=pre++([J aH x.1.seq,J aH x.1.id,J R x.1.cur,J R x.1.off,ad x.2.1 x.1.data.length x.2.2]:List aP)++((f++([J aH x.1.seq,J aH x.1.id,J R x.1.cur,J R x.1.off,ad x.2.1 x.1.data.length x.2.2]:List aP)).drop 5++(eb++fc))from by rw[j5,j5,<-j5 f,List.drop_append_of_le_length (by rw[dw];show 5<=_+5;omega)]]at h;exact h⟩
     case measure=>simp[cx]<;>omega
   .have cJ:¬(j:Int)<(L.length:Int):=ae;obtain rfl:j=L.length:=ae;rw[il]at a l;rw[List.drop_length]at a;have m:=hid l;clear l;go_upto_region 5 with fail;refine ar ?_;refine v4 ?_;refine ak ?_;obtain⟨cu,z⟩:=ex ((fW (L.filter (λx=>!p x))++(f++(fW []++fc))).toArray);have Hj:cu.size=c*5:=by rw[<-z,iR,dw,dw,dw,It,m.out];have:=PK.out;show _+(_+(0+_))=_;omega
    have hcut:cu.toList.take (i*5)=fW (L.filter (λx=>!p x)):=by rw[<-z,<-m.out,<-It];simp
    rw[z]at a;have S:=hid Hj;have Da:=hid hcut;clear z Hj hcut;refine jb ?_;refine aJ (ad (ab ⟨G,i*5,af⟩) (L.length -i) (c -i)) (aep 235 137 5 (bc 36) (bc 37) aa xD aw G L.length c i (L.length -i) aa aa ae r.out (by have:=r.out;omega)) ?_;refine ac1 (C:=λy=>y.size=cu.size/\y.toList.take (i*5)=cu.toList.take (i*5)) a 0 (adX (sz:=5) aa aT xD aT aT aw ae (a.a1 0) (by rw[S.out];have:=r.out;omega)) (λi' y RA a=>?_);refine ak ?_;obtain⟨F,H⟩:=RA;rw[Da.out]at H;rw[S.out]at F;replace a:ai _ _ _ [ah G y 137]:=a;have PT:=hid F;have uZ:=hid H;clear F H;refine jb ?_;refine aJ (ad (ab (⟨G,0,af⟩:bW)) i c) (qV 235 137 5 (bc 39) (bc 40) aa xD aw (ab (⟨G,0,af⟩:bW)) L.length c i aa aa (by have:=r.out;omega)) ?_;refine bR ?_;have V:=a.Az 0 i c 5 (fW (L.filter (λx=>!p x))) uZ.out (by have:=r.out;omega) Q.out PT.out;rw[<-m.out]at V;go_wp2_with fail;go_ret;exact⟨_,by rw[m.out];rfl,V.gj 0⟩
def adZ{o}{a:Act}{w x v}(c:o.op=.call {callee:=.invoke x "graft/record.number",args:=#[],argTypes:=#[]})(hx:a.eval x=.iface 137 v):(execOp a.eval o).run ax w=.ok (.enter 408 #[v]) w:=by have h1:(kj 408 #[v]).run _ w=.ok (.enter 408 _) w:=enters_of agH aw aa _ _;have b:(callMethod (.iface 137 v) "graft/record.number" #[]).run ax w=.ok (.enter 408 #[v]) w:=aT;unfold execOp;simp only[c,resolve,hx,invoke,Sem.run_bind,Sem.run_pure,Result.andThen_ok];simpa using b
def qa:RecM:=(⟨0,0,0,0,[]⟩,af,0)
def jg:List RecM->RecM
 |[]=>qa
 |x::l=>l.foldl (λb y=>if y.1.seq>b.1.seq then y else b) x
def akd l x:jg (l++[x])=if l=[]\/x.1.seq>(jg l).1.seq then x else jg l:=by
 cases l with
 |nil=>rfl
 |cons y l=>grind[jg]
def XR:∀(l),jg l=qa\/jg l∈l:=by
 intro l;cases l with
 |nil=>exact .inl aa
 |cons x l=>
  right;show l.foldl _ x∈_
  have key:∀(l:List RecM) x,l.foldl (λb y=>if y.1.seq>b.1.seq then y else b) x=x\/l.foldl (λb y=>if y.1.seq>b.1.seq then y else b) x∈l:=by
   intro l;induction l with
   |nil=>simp
   |cons y l a=>
    intro x;rw[List.foldl_cons];rcases a (if y.1.seq>x.1.seq then y else x)with h|h
    .rw[h];split;·simp
     .simp
    .grind
  grind
def acB(x:RecM)w:
 aD ax 408 #[av #[J aH x.1.seq,J aH x.1.id,J R x.1.cur,J R x.1.off,ad x.2.1 x.1.data.length x.2.2]] w λe w'=>e=aA (J aH x.1.seq)/\ao w w':=by
 go_enter agH,ntmps408;have a:=bg w;go_step;refine aF ?_;refine bO a (av _) (λb w1 a=>?_);refine cK ?_;refine pl a 0 0 ?_;refine bR ?_;go_wp2_with fail;go_ret;exact⟨aa,a.only⟩
def anr A c L w(H:L.length<=1073741824)(hr:Row 0 w A L.length c 137 5 (fW L)):
 aD ax 214 #[ad A L.length c] w λe w'=>e=aA (.tuple #[av #[J aH (jg L).1.seq,J aH (jg L).1.id,J R (jg L).1.cur,J R (jg L).1.off,ad (jg L).2.1 (jg L).1.data.length (jg L).2.2],aj (decide (0<L.length))])/\ao w w':=by
 have s:Hid (∀W,ao w W->Row 0 W A _ c _ 5 _):=hid (λW g=>Ik hr g);clear hr;obtain⟨fU,hbl⟩:=ex (jg L);obtain⟨lb,n⟩:=ex (decide (0<L.length));rw[hbl,n];have B:=hid n;have z:=hid hbl;clear n hbl;go_enter func214,ntmps214;have a:=bg w;go_step;refine aF ?_;refine bA a #[J _ 0,J _ 0,J _ 0,J _ 0,ad _ 0 0] (λp w1 a=>?_);refine dR ?_;refine bA a #[J aH 0,J aH 0,J R 0,J R 0,ad af 0 0] (λq K a=>?_);refine aF ?_;refine v3 ?_;refine ak ?_;replace a:ai _ _ _ [ah q #[J _ (jg []).1.seq,J _ (jg []).1.id,J R (jg []).1.cur,J _ (jg []).1.off,ad (jg []).2.1 (jg []).1.data.length (jg []).2.2] 137,ah p #[J aH qa.1.seq,J _ qa.1.id,J _ qa.1.cur,J _ qa.1.off,ad qa.2.1 qa.1.data.length qa.2.2] 137]:=a;go_wp2_with fail;go_loopw [9] (λo wr=>∃j:Nat,j<=L.length/\o=J R (j:Int)/\ai w (λ_=>False) wr [ah q #[J aH (jg (L.take j)).1.seq,J aH (jg (L.take j)).1.id,J R (jg (L.take j)).1.cur,J R (jg (L.take j)).1.off,ad (jg (L.take j)).2.1 (jg (L.take j)).1.data.length (jg (L.take j)).2.2] 137,ah p #[J aH qa.1.seq,J aH qa.1.id,J R qa.1.cur,J R qa.1.off,ad qa.2.1 qa.1.data.length qa.2.2] 137]) (λo wr=>L.length -(cx o).toNat);case atStart=>exact⟨0,cQ _,aa,a⟩
 case round=>
  clear a;obtain⟨j,I,rfl,a⟩:=hrel;by_cases hlt:j<L.length
  .have E:(j:Int)<(L.length:Int):=ae;obtain⟨x,hx⟩:∃x,L[j]?=ab x:=⟨_,cm hlt⟩;obtain⟨l,cur,t,D,_,_,_,_⟩:=(s.out _ a.only).blk ae;have C:=hid (TA L j x hx);have u:L.take (j+1)=L.take j++[x]:=by rw[fv,hx];rfl
   obtain⟨b,hb⟩:=ex (jg (L.take j));rw[hb]at a;have f:Hid (jg (L.take _)=if j=0\/x.1.seq>b.1.seq then x else b):=hid (by rw[u,akd,hb];congr 1;rw[eq_iff_iff];refine or_congr_left ⟨λh=>?_,λh=>by rw[h];rfl⟩;have:=congrArg List.length h;rw[List.length_take,List.length_nil]at this;omega);have r:=hid t;clear hx D t u hb;go_step;refine aF ?_;refine cK ?_;refine aJ (ay (ab ⟨l,(j*5),af⟩)) (cI 235 137 5 (bc 7) (bc 9) aa xD aw l 0 (L.length) c j ((j*5)) (by show ad A _ _=_;rw[r]) aa hlt ae) ?_;refine aJ _ (by(refine e7 137 _ aa l _ aa _ (Row.range (s _ a.only) r (λi v hi=>C i v hi)) OE aa aw)) ?_;refine bA a #[J _ 0,J _ 0,J _ 0,J _ 0,ad _ 0 0] (λG M a=>?_);refine ag ?_;refine ba a 0 (av _) (λN a=>?_);refine ak ?_;by_cases m:j=0
   .have d:(j:Int)=0:=ae;refine dh ?_;refine bP a [] (λ_ _=>undef) (λ_ _=>emp) (λ_=>[]) (λ_=>[]) (λ_=>[]) [0,1,2] (λF=>?_);refine aL ?_;refine aM (aj true) (λ_ _ _=>by(go_simp;try simp[d])) ?_;refine aL ?_;iterate 7 refine ds ?_
    refine gC (aj true) ?_;refine bS λO a=>?_;refine aF ?_;refine bt a 0 #[J aH x.1.seq,J aH x.1.id,J R x.1.cur,J R x.1.off,ad x.2.1 x.1.data.length x.2.2] ?_;refine ba a 1 (av _) (λP a=>?_);refine ak ?_;have y:=hid m;clear m d;refine aF ?_;refine pad (j:Int) 1 ((j+1:Nat):Int) ?_;refine bR ?_;go_wp2_with fail;go_roundw;case rel=>exact⟨j+1,ae,aa,by rw[f,if_pos (.inl y)];exact a.pick [1,2]⟩
    case measure=>simp[cx]<;>omega
   .have d:¬(j:Int)=0:=ae;obtain⟨dC,hcb⟩:=ex (decide (x.1.seq>b.1.seq));have k:=hid hcb;clear hcb;refine dh ?_;refine bP a [5,8] (λi _=>match i with|5=>J aH x.1.seq|8=>J aH b.1.seq|_=>undef) (λ_ _=>emp) (λ_=>[]) (λ|3=>[0]|6=>[1]|_=>[]) (λ_=>[]) [0,1,2,8,11] (λF=>?_);refine aL ?_;refine aM (aj au) (λ_ _ _=>by(go_simp;try simp[d])) ?_;refine aL ?_;refine eb 0 #[J aH x.1.seq,J aH x.1.id,J R x.1.cur,J R x.1.off,ad x.2.1 x.1.data.length x.2.2] ?_;refine aL ?_;refine dE (λ_ _ _=>acB x _) ?_ (hr:=by(intro _;exact adZ aa aa));refine eb 0 #[J aH b.1.seq,J aH b.1.id,J R b.1.cur,J R b.1.off,ad b.2.1 b.1.data.length b.2.2] ?_;refine aL ?_;refine dE (λ_ _ _=>acB b _) ?_ (hr:=by(intro _;exact adZ aa aa));refine aM (aj dC) (λ_ _ _=>by(have h:=k.out;go_simp;try simp[h])) ?_;refine gC (aj dC) ?_;refine bS λQ a=>?_;replace a:=a.drop 3;replace a:=a.drop 3;cases dC with
    |true=>
     refine aF ?_;refine bt a 0 #[J aH x.1.seq,J aH x.1.id,J R x.1.cur,J R x.1.off,ad x.2.1 x.1.data.length x.2.2] ?_;refine ba a 1 (av _) (λS a=>?_);refine aF ?_;refine pad (j:Int) 1 ((j+1:Nat):Int) ?_;refine bR ?_;go_wp2_with fail;go_roundw;case rel=>exact⟨j+1,ae,aa,by rw[f,if_pos (.inr (of_decide_eq_true k))];exact a.pick [1,2]⟩
     case measure=>simp[cx]<;>omega
    |false=>
     refine aF ?_;refine pad (j:Int) 1 ((j+1:Nat):Int) ?_;refine bR ?_;go_wp2_with fail;go_roundw;case rel=>exact⟨j+1,ae,aa,by rw[f,if_neg (λh=>h.elim m (of_decide_eq_false k))];exact a.pick [1,2]⟩
     case measure=>simp[cx]<;>omega
  .have E:¬(j:Int)<(L.length:Int):=ae;obtain rfl:j=L.length:=ae;rw[il,z]at a;go_step;refine aF ?_;refine dR ?_;refine bt a 0 #[J aH fU.1.seq,J aH fU.1.id,J R fU.1.cur,J R fU.1.off,ad fU.2.1 fU.1.data.length fU.2.2] ?_;refine v2 ?_;refine aJ (aj lb) (by(have h:=B.out;first|(go_simp;done)|(go_simp;rw[<-h];done)|(go_simp;rw[<-h];simp))) ?_;refine ba a 1 (av _) (λT a=>?_);refine bR ?_;go_wp2_with fail;refine dp (v:=_) (mP aa aa aa (a.a1 1) aw aw) aa (⟨aa,a.only⟩)
def aq3(x:RecM)id B w(hb:aX w B #[J aH id] 42):
 aD ax 217 #[av #[J aH x.1.seq,J aH x.1.id,J R x.1.cur,J R x.1.off,ad x.2.1 x.1.data.length x.2.2],ay (ab ⟨B,0,af⟩)] w λe w'=>e=aA (aj (decide (x.1.id≠id)))/\ao w w':=by
 obtain⟨d,b⟩:=ex (decide (x.1.id≠id));have c:=hid b;rw[b];clear b;go_enter agm,ntmps217;have a:=bg w;go_step;refine aF ?_;refine bO a (av _) (λf w1 a=>?_);refine cK ?_;refine pl a 0 1 ?_;refine iL hb a.only ?_;refine aJ (aj d) (by(have h:=c.out;go_simp;rw[<-h];simp[bne,BEq.beq])) ?_;refine bR ?_;go_wp2_with fail;go_ret;exact⟨aa,a.only⟩
def as0{L u}(h:u∈fW L):u.oneCell'=true:=by obtain⟨x,_,hx⟩:=List.mem_flatMap.1 h;simp only[List.mem_cons,List.not_mem_nil,or_false]at hx;rcases hx with rfl|rfl|rfl|rfl|rfl<;>rfl
def Row.cells{w A}{n c e sz:Nat}{xs}(h:Row 0 w A n c e sz xs):Cells w sz A n xs:=by
 refine⟨h.1,λd=>?_⟩;obtain⟨g,cur,rfl,hb,h1,f,i,b⟩:=h.blk d;refine⟨_,rfl,λj u a=>?_⟩;rw[nD,kV];refine hb.cell j ?_;rw[<-b,List.getElem?_take]at a;split at a;·grind
 .grind
def akS A c L w(t:L.length<=1073741824)(hr:Row 0 w A L.length c 137 5 (fW L))(f:L.length=0->A=af)(hc0:L.length=0->c=0):
 aD ax 216 #[ad A L.length c] w λe w'=>∃b d,e=aA (ad b L.length d)/\Row w.heap.size w' b L.length d 137 5 (fW L)/\ao w w':=by
 by_cases n:L.length=0;·have hnil:=List.eq_nil_of_length_eq_zero n;subst hnil;have o:=f aa;subst o;obtain rfl:=hc0 aa;go_enter agl,aha;have a:=bg w;go_step;refine aF ?_;refine cK ?_;refine pk (aj true) ?_;refine aF ?_;refine ag ?_;refine ak ?_;go_wp2_with fail;go_ret;exact⟨_,0,aa,Row.nil _ _ _ _,a.only⟩
 .obtain⟨s,cur,rfl,p,_,_,_,_⟩:=hr.blk ae;have j:Hid (∀W,ao w W->Row 0 W _ _ c _ 5 _):=hid (λW g=>Ik hr g);clear hr p f hc0;go_enter agl,aha;have a:=bg w;go_step;refine aF ?_;refine cK ?_;refine pk (aj au) ?_;refine aF ?_;refine ga a #[] 137 (λr w1 a=>?_);refine ag ?_;have k:ai _ _ _ [bp _ 0 0 _ 5 []]:=a.Az 0 0 0 5 [] aa (Nat.le_refl _) (cQ _) aa;refine np (m:=_) k 0 56 (by have h:=j.out _ a.only;exact Row.cells h) (λu q=>as0 q) (λi l v a=>?_) (hby:=by omega);refine bR ?_;rw[kV,List.nil_append]at a;go_wp2_with fail;go_ret;exact⟨i,l,aa,(a.fresh 0).row,a.only⟩
def xb(id:Int)(L:List RecM):RecM×Bool:=(jg (L.filter (λx=>!decide (x.1.id≠id))),decide (0<(L.filter (λx=>!decide (x.1.id≠id))).length))
def acv id A c L w(n:L.length<=1073741824)(hr:Row 0 w A L.length c 137 5 (fW L))(m:L.length=0->A=af)(hc0:L.length=0->c=0)(s:∀x∈L,bT w x.2.1 x.1.data/\x.1.data.length<=140737488355328):
 aD ax 133 #[J aH id,ad A L.length c] w λe w'=>∃d k,e=aA (.tuple #[av (recC (xb id L).1.1 d k),aj (xb id L).2])/\b5 w w' (cf d k (xb id L).1.1.data):=by
 obtain⟨f,l⟩:=ex (L.filter (λx=>!decide (x.1.id≠id)));have V:f.length<=L.length:=aG;obtain⟨b,hb⟩:=ex (jg f);obtain⟨lb,t⟩:=ex (decide (0<f.length))
 have r:∀W,ao w W->bT W _ b.1.data:=λW g=>by
  rcases XR f with h|h;·rw[hb]at h;rw[h];exact bT.nil
  .rw[hb,<-l]at h;exact(s b ((List.mem_filter.1 h).1)).1.aI g
 have hbl:b.1.data.length<=140737488355328:=by
  rcases XR f with h|h;·rw[hb]at h;rw[h];exact cQ _
  .grind
 have p:xb id L=(b,lb):=by grind[xb]
 rw[p];have y:=hid (λW g=>akS A c L W n (Ik hr g) m hc0)
 have C:Hid (∀W aK c2 B,Row 0 W aK _ c2 _ 5 _->aX W B _ 42->¬dV aK B->aD _ _ #[ad aK _ c2,dK (ek 217) #[] _] W λe w'=>∃d,e=aA _/\Turned W w' _ _):=hid (λW aK c2 B h hb2 M=>by have q:=asY aK c2 _ #[ay _] L (λx=>decide _) W n h (enters_of agm aw aa) (λx E _ o=>aq3 x id B E (o.heap hb2 M));rw[l]at q;exact q);have z:Hid (∀W,ao w W->aD _ 65 _ W λe w'=>∃d k,e=aA _/\e3 _ w' d k _/\ao W w'):=hid (λW g=>(wI _ b.2.2 _ W (r W g) hbl).mono (λe w' ⟨d,k,h1,G,H⟩=>⟨d,k,h1,Row.nS G,H⟩));have D:=hid (λW aK c2 h=>by have q:=anr aK c2 f W ae h;rw[hb,t]at q;exact q);clear hr s m hc0 l hb t r p;go_enter func133,ntmps133;have a:=bg w;go_step;refine aF ?_;refine bO a (J _ id) (λQ w1 a=>?_);refine bA a #[J _ 0,J _ 0,J _ 0,J _ 0,ad _ 0 0] (λS Y a=>?_);refine cK ?_;refine a7 (y.out _ a.only) ?_;rintro e Z ⟨O,U,rfl,I,g⟩;replace a:=a.k8 g I;refine bb ?_;refine ag ?_;refine a7 (C _ _ _ _ (a.atR 0) (a.a1 2) (λh=>a.ne (i:=0) (j:=2) aa aa bj _ h aa)) ?_;rintro e cc ⟨P,rfl,K⟩;replace a:=a.eG 0 K;refine bb ?_;refine bC (D _ _ _ (a.atR 0)) a (λcG a=>?_);refine v3 ?_;refine bA a #[J _ 0,J _ 0,J _ 0,J _ 0,ad _ 0 0] (λT c6 a=>?_);refine ba a 0 (av _) (λdX a=>?_);refine cK ?_;refine pl a 0 4 ?_;refine a7 (z _ a.only) ?_;rintro e dH ⟨u,F,rfl,N,g⟩;replace a:=a.js g N;refine bb ?_;refine ag ?_;refine ba a 1 (ad _ _ _) (λe9 a=>?_);refine aF ?_;refine bt a 1 #[J aH b.1.seq,J aH b.1.id,J R b.1.cur,J R b.1.off,ad u b.1.data.length F] ?_;refine ag ?_;refine ba a 3 (av _) (λX a=>?_);refine bR ?_;go_wp2_with fail;refine dp (v:=_) (mP aa aa aa (a.a1 3) aw aw) aa (⟨_,_,aa,a.fresh 0⟩)
end Go.Proofs.YtcmhplknoglbkaaGreat
