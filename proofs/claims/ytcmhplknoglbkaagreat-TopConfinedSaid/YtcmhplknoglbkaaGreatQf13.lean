/- The statement TopConfinedSaid holds for all inputs (no condition). -/
import Derived.Test.YtcmhplknoglbkaaGreatRows
import Derived.ProofKit
import Derived.SizedLaws
import Derived.Deep.Slices
import Derived.Deep.Fields
import Derived.ChangeSame
import Derived.ChangeSlices
import Derived.OpenShut
import Derived.HandedShaped
import Derived.Test.YtcmhplknoglbkaaGreatQf0
import Derived.Test.YtcmhplknoglbkaaGreatQf3
import Derived.Test.YtcmhplknoglbkaaGreatQf12
set_option linter.all false
set_option maxRecDepth 100000
set_option maxHeartbeats 4000000
open Go.Proofs.Tryz
open Bool renaming false->ao
open Go.Addr renaming add->u'
open Go.ChangeSpec renaming witness6->azB
open Go.DataW renaming Trod->ah2,trod->DY,trod_int->va,trod_struct->O7
open Go.Deep renaming choose_lt->VL
open Go.IntKind renaming i64->R,u8->dR
open Go.Lit renaming int->GF
open Go.Proofs.Tryz renaming prog->ax,underlying29->WQ,underlying3->jH,underlying5->mr
open Go.Proofs.YtcmhplknoglbkaaGreat.Rows renaming topConfinedRow->W',topConfinedSpec->Xa
open Go.RowKit.Below renaming trod->aka
open Go.Value renaming cells->PJ,int->J,okWide->akb,slice->ae
open Go.WideShapes renaming add_plain->KX
open Go.World renaming cell?_spot->Xf,cells?_some->akg
open HAppend renaming hAppend->GV
open List.cons renaming inj->Et
open List renaming drop_drop->QW,getElem?_cons_succ->vu,getElem?_eq_none->Ew,getElem?_eq_some_iff->eM,getElem?_take->q2,length->q3,range->dU,take_append_drop->oJ,take_of_length_le->ub
open Option renaming none->af,some->ab
namespace Go.Proofs.YtcmhplknoglbkaaGreat
section
open Go.ChangeShapes Go.WideShapes Go.ChangeAt Go.RowKit Go.Deep
def Tryz.own:ownKnob ax.godebug=none:=aw
def Tryz.laidOut:laidOutB ax=true:=aw
def Zv:ax.cellsOf 5=1:=aw
def anE:ax.cellsOf 23=32:=aw
def Zt:ax.cellsOf 73=5:=aw
def anC:ax.cellsOf 26=67:=aw
def Jc{n}(h:(GF R n).wf=true):cN n:=by have h1:R.min=-9223372036854775808:=rfl;have a:R.max=9223372036854775807:=rfl;simp only[Lit.wf,Bool.and_eq_true,decide_eq_true_eq]at h;exact⟨ad,ad⟩
def axY{n}(h:(GF dR n).wf=true):0<=n/\n<256:=by have h1:dR.min=0:=rfl;have a:dR.max=255:=rfl;grind[Lit.wf]
section
variable {H:Type} {enc:TypeId×Value->H}
def shut_bool{W base a held}b:ah2 enc ax W base a held 4 (.bool b) (.lit (.bool b)) []:=⟨1,ba⟩
def aeM{W n held e cs x}(h:DY enc ax W 0 n held e 22 cs=ab x):
 ∃A c l,cs=[ae A l.length c]/\bX W A l/\oc l/\l.length<=c/\c<=maxLen:=by
 rcases open_ints Tryz.underlying22 mr Zv h with⟨rfl,_⟩|⟨a,len,cap,d,rfl,_,o,i,hz,_,hc,m⟩;·exact⟨af,0,[],aa,bX.nil,λx hx=>aG,Nat.le_refl _,Nat.zero_le _⟩
 .have g:len<=d.length:=aG;refine⟨ab a,cap,d.take len,aG,λk=>?_,λx hx=>axY (m x (List.mem_of_mem_take hx)),aG,i⟩;rw[List.length_take,Nat.min_eq_left g]at k⊢;obtain⟨b,off,p⟩:=a;have hspot:=by simpa [u']using Xf (hc 0 ad)
  subst hspot;refine⟨b,_,rfl,λj f=>?_⟩;have h1:=hc j ad;rw[KX]at h1;rw[h1,q2,if_pos f,List.getD_eq_getElem?_getD]
def aum{W t held p cs x}(h:DY enc ax W 0 t held p 73 cs=ab x):
 ∃ m A c,cs=[J R m.k,J R m.to,J R m.fr,J R m.n,ae A m.data.length c]/\qM W m A c/\pF m/\oc m.data:=by
 obtain⟨xs,n,_,_,b,hx,a⟩:=O7 Tryz.underlying73 h;rw[Zt]at b;match xs,hx with
 |[z,B,bx,c5,hG],_=>
 match cs,b with
 |[w,y,v2,v3,v4],_=>
 have d:=a 0 _ aa;have e:=a 1 _ aa;have f:=a 2 _ aa;have g:=a 3 _ aa;have i:=a 4 _ aa;simp only[vu]at d e f g i;obtain⟨r,dM,_,zO⟩:=va jH d;obtain⟨cK,bF,_,w1⟩:=va jH e;obtain⟨cI,cq,_,u⟩:=va jH f;obtain⟨s,j,_,v⟩:=va jH g;obtain⟨A,c,l,o,q,hb,hlc,hc⟩:=aeM i;obtain rfl:=(Et dM).1;obtain rfl:=(Et bF).1;obtain rfl:=(Et cq).1;obtain rfl:=(Et j).1;obtain rfl:=(Et o).1;exact⟨⟨r,cK,cI,s,l⟩,A,c,aa,⟨q,hlc⟩,⟨Jc zO,Jc w1,Jc u,Jc v,by grind[maxLen]⟩,hb⟩
def aun{W t held l cs x}(h:DY enc ax W 0 t held l 24 cs=ab x):
 ∃A c ms,cs=[ae A ms.length c]/\cZ W A ms/\(∀m∈ms,pF m/\oc m.data):=by
 rcases open_slice Tryz.underlying24 h with⟨rfl,_⟩|⟨a,len,cap,m,n,D,u,rfl,_,y,s,B,_,hi⟩;·exact⟨_,0,[],rfl,λf=>absurd f bc,bc⟩
 .have z:len<=m:=aG
  have each:∀i,i<m->∃q:bO×Option Addr×Nat,(∀j v,[J R q.1.k,J R q.1.to,J R q.1.fr,J R q.1.n,ae q.2.1 q.1.data.length q.2.2][j]?=ab v->W.cell? ((a.add (i*5)).add j)=ab v)/\qM W q.1 q.2.1 q.2.2/\pF q.1/\oc q.1.data:=by intro i hi';obtain⟨cs',h1,e⟩:=hi i hi';rw[Zt]at h1;obtain⟨_,hlen,hcell⟩:=akg h1;obtain⟨q,A,c,rfl,o,p,r⟩:=aum e;refine⟨(q,A,c),λj v d=>?_,o,p,r⟩;have w:=(eM.1 d).1;have:=hcell j ad;rw[this];simpa using d
  obtain⟨q,g⟩:=VL each;refine⟨ab a,cap,(dU len).map (λi=>(q i).1),bc,λf=>?_,λm s=>?_⟩
  .have C:0<len:=aG;obtain⟨b,off,E⟩:=a
   have hspot:=by have h1:=(g 0 ad).1 0 _ aa;simpa [u']using Xf h1
   subst hspot;refine⟨b,_,rfl,λj m d=>?_⟩;have hj':j<len:=aG;rw[List.getElem?_map,List.getElem?_range hj']at d;injection d with d;subst d;obtain⟨h1,e,_⟩:=g j ad;simp only[KX]at h1;exact⟨_,_,⟨h1 0 _ aa,h1 1 _ aa,h1 2 _ aa,h1 3 _ aa,h1 4 _ aa⟩,e⟩
  .grind
def aeN{W f held c cs x}(h:DY enc ax W 0 f held c 23 cs=ab x):∃g:dq,cs=g.l.map a6:=by
 obtain⟨xs,m,_,_,d,hx,b⟩:=DataW.trod_array Tryz.underlying23 h;rw[anE]at d;rw[Zv]at b
 have each:∀i,i<32->∃z,cs[i]?=ab _:=λi hi=>by
  have h1:=b i hi;rw[List.getElem?_eq_getElem ad,Nat.mul_one]at h1;obtain⟨z,e,_⟩:=va mr h1;have a:((cs.drop i).take 1)[0]?=ab (a6 z):=by rw[e];rfl
  rw[q2,if_pos ad,List.getElem?_drop]at a;exact⟨z,a⟩
 obtain⟨z,hz⟩:=VL each;refine⟨⟨(dU 32).map z,bc⟩,List.ext_getElem? λi=>?_⟩;by_cases hi:i<32;·rw[hz i hi];simp[hi]
 .rw[Ew ad,Ew (by simp;omega)]
end
end
def atJ:(((begin ax (λ_ _=>0) default).world.heap[0]?).bind Obj.row?)=ab (#[J R 0],3):=aw
def atI{W:World}(h:W.ShapedOpen ax):∃m,W.cell? ⟨0,0,af⟩=ab (J R m):=by
 obtain⟨cs,h1,c,d⟩:=h.1 0 #[J R 0] 3 (Nat.le_of_ble_eq_true aw) atJ;obtain⟨k,a,hz,e⟩:=d aw;rw[show ax.cellTypes ax.depth 3=ab [3] by rfl]at a;injection a with a;subst a;obtain⟨l⟩:=cs;match l,c with
 |[v],_=>
  obtain⟨u,j,b⟩:=e 0 v aa;have g:3=u:=aG;subst g;clear hz;unfold Cell.ok at b;rw[jH]at b;cases v<;>simp at b;rename_i i hk;obtain⟨rfl,_⟩:=b;have f:W.cell? ⟨0,0,af⟩=ab (J R i):=by grind[World.cell?]
  exact⟨_,f⟩
section
open Go.ChangeShapes Go.WideShapes Go.ChangeAt Go.RowKit Go.Deep
def Zu:ax.cellsOf 44=2:=aw
def anB:ax.cellsOf 28=71:=aw
section
variable {H:Type} {enc:TypeId×Value->H}
def auq{W t held p l x}(h:DY enc ax W 0 t held p 26 l=ab x):
 ∃ o n g1 g2 A c ms,l=(a' o n g1 g2 (ae A ms.length c)).toList/\cZ W A ms/\(∀m∈ms,pF m/\oc m.data):=by
 obtain⟨xs,n,_,_,q,hx,a⟩:=O7 Tryz.underlying26 h;rw[anC]at q;match xs,hx with
 |[u,v,bx,c5,hG],_=>
 have b:=a 0 _ aa;have d:=a 1 _ aa;have f:=a 2 _ aa;have g:=a 3 _ aa;have i:=a 4 _ aa;simp only[vu]at b d f g i;obtain⟨s,dM,_,_⟩:=va jH b;obtain⟨cK,bF,_,_⟩:=va jH d;obtain⟨g1,cq⟩:=aeN f;obtain⟨g2,j⟩:=aeN g;obtain⟨A,c,ms,k,r,ho⟩:=aun i;refine⟨s,cK,g1,g2,A,c,ms,?_,r,ho⟩;have e:l=(l.drop 0).take 1++((l.drop 1).take 1++((l.drop 2).take 32++((l.drop 34).take 32++(l.drop 66).take 1))):=by grind[ub,QW,oJ]
 unfold a';rw[e];exact congr (congrArg GV dM) (congr (congrArg GV bF) (congr (congrArg GV cq) (congr (congrArg _ j) k)))
def aul{W y held r kk v d p}(hv:akb ax W r kk 28 v)(h:ah2 enc ax W 0 y held 28 v d p):
 ∃ b b0 old o n g1 g2 A c ms sz bd mo,v=.agg (fz [ae b old.length b0] (a' o n g1 g2 (ae A ms.length c)) [J R sz,J R bd,J R mo])/\bX W b old/\old.length<=b0/\cZ W A ms/\(∀m∈ms,pF m):=by
 obtain⟨cs,rfl,_⟩:=okWide_struct Tryz.underlying28 hv;obtain⟨z,a⟩:=h;obtain⟨l⟩:=cs;simp only[PJ]at a;obtain⟨xs,n,_,_,t,hx,a⟩:=O7 Tryz.underlying28 a;rw[anB]at t;match xs,hx with
 |[B,C,bx,c5,hG],_=>
 have f:=a 0 _ aa;have g:=a 1 _ aa;have i:=a 2 _ aa;have j:=a 3 _ aa;have k:=a 4 _ aa;simp only[vu]at f g i j k;obtain⟨b,b0,old,dM,hs0,_,hlc,_⟩:=aeM f;obtain⟨o,x,g1,g2,A,c,ms,bF,w,ho⟩:=auq g;obtain⟨sz,cq,_,_⟩:=va jH i;obtain⟨bd,q,_,_⟩:=va jH j;obtain⟨mo,s,_,_⟩:=va jH k;refine⟨b,b0,_,o,x,g1,g2,A,c,ms,sz,bd,mo,?_,hs0,hlc,w,λm u=>(ho m u).1⟩;have e:l=(l.drop 0).take 1++((l.drop 1).take 67++((l.drop 68).take 1++((l.drop 69).take 1++(l.drop 70).take 1))):=by grind[ub,QW,oJ]
 unfold fz;congr 1;congr 1;rw[e];exact congr (congrArg GV dM) (congr (congrArg GV bF) (congr (congrArg GV cq) (congr (congrArg _ q) s)))
def auo{W g held e cs x}(h:DY enc ax W 0 g held e 44 cs=ab x):
 ∃k:Int×Int,cs=[J R k.1,J .u64 k.2]/\cN k.1:=by
 obtain⟨xs,n,_,_,b,hx,a⟩:=O7 underlying44 h;rw[Zu]at b;match xs,hx with
 |[l,m],_=>
 match cs,b with
 |[i,j],_=>
 have c:=a 0 _ aa;have d:=a 1 _ aa;simp only[vu]at c d;obtain⟨f,dM,_,zO⟩:=va jH c;obtain⟨cK,bF,_,w1⟩:=va Tryz.underlying42 d;obtain rfl:=(Et dM).1;obtain rfl:=(Et bF).1;exact⟨(f,cK),aa,Jc zO⟩
def aup{W E held y cs x}(h:DY enc ax W 0 E held y 29 cs=ab x):
 ∃A c l,cs=[ae A (q3 l) c]/\Cells W 2 A (q3 l) (iz l)/\(0<q3 l->∀p,A=ab p->p.spot=af)/\∀k∈l,cN k.1:=by
 rcases open_slice WQ h with⟨rfl,_⟩|⟨a,len,cap,m,n,D,F,rfl,_,I,L,M,_,hi⟩;·exact⟨_,0,[],aa,⟨rfl,λh=>absurd h aS⟩,λh=>absurd h aS,λ_ h=>(List.not_mem_nil h).elim⟩
 .have K:len<=m:=aG
  have each:∀i,i<m->∃k:Int×Int,(∀j v,[J R k.1,J .u64 k.2][j]?=ab v->W.cell? ((a.add (i*2)).add j)=ab v)/\cN k.1:=by intro i hi';obtain⟨cs',h1,o⟩:=hi i hi';rw[Zu]at h1;obtain⟨_,hlen,hcell⟩:=akg h1;obtain⟨k,rfl,f⟩:=auo o;refine⟨k,λj v d=>?_,f⟩;have H:=(eM.1 d).1;have:=hcell j ad;rw[this];simpa using d
  obtain⟨q,w⟩:=VL each
  have hsp:0<len->a.spot=none:=λz=>by have h1:=(w 0 ad).1 0 _ aa;simpa [u']using Xf h1
  refine⟨ab a,cap,(dU len).map q,bc,⟨by rw[ZJ],λN=>⟨a,rfl,λj u d=>?_⟩⟩,λz p e=>aG,λk hk=>?_⟩
  .have C:0<len:=aG;have o:=hsp C;obtain⟨b,off,spot⟩:=a;simp only at o;subst o;have B:=(eM.1 d).1;rw[ZJ,List.length_map,List.length_range]at B;have G:j/2<len:=ad;have hx:((dU len).map q)[j/2]?=ab (q (j/2)):=aG;have f:=(w (j/2) ad).1;simp only[KX]at f;have s:j%2=0\/j%2=1:=ad;rcases s with s|s;·have g:=L4 hx 0 _ aa;have r:j/2*2+0=j:=ad;rw[r,d]at g;cases g;have t:=f 0 _ aa;rw[KX];rwa [show off+j/2*2+0=off+j by omega]at t
   .have g:=L4 hx 1 _ aa;have r:j/2*2+1=j:=ad;rw[r,d]at g;cases g;have t:=f 1 _ aa;rw[KX];rwa [show off+j/2*2+1=off+j by omega]at t
  .grind
end
end
abbrev Oi:=W'
def asF:laidOutB ax=true:=aw
def asG:mapsRowed ax=true:=aw
def asE:(Oi.inPlace==ax.inPlace 4)=true:=aw
def asJ:(Oi.unfollowed==ax.unfollowed 4)=true:=aw
def asI:(Oi.recurses==ax.recurses 4)=true:=aw
def asH:(Oi.named==ax.varsNamed 4)=true:=aw
def asD:joinedFacts ax 4 Tryz.f4 Xa W'=true:=by unfold joinedFacts;rw[asF,asG,asE,asJ,asI,asH];kernel_rfl
open Go.ChangeShapes Go.WideShapes Go.ChangeAt Go.RowKit Go.Deep
def axN os(T:os.Started)z(enc:TypeId×Value->z):
 ReturnsInHanded {} Tryz.checked os 4 .any (Xa.pre6 enc ax Tryz.f4 W'.domain ao) (Xa.post enc ax Tryz.f4 ao true ao ao):=by
 refine returnsInHanded_of_change_shaped (C:=_) Tryz.own T aw Tryz.func4
  (azB (enc:=_) (C:=_) _ ⟨#[],#[.agg (fz [ae af 0 0] (a' 0 0 dq.zero dq.zero (ae af 0 0)) [J R 0,J R 0,J R 0]),ae af 0 0],[]⟩ 8 aw aw aw aw) ?_;intro W base args ds gs before w s _ _ P _;have hval:∀(j) t v,Tryz.f4.params[j]?=ab t->args[j]?=ab v->akb ax W _ _ t v:=w;have a:=s;obtain⟨p,q,r,E,rfl,_,_⟩:=s;have m:DataW.TrodAll _ ax W 0 (λ_=>true) _ _ _ ds p:=r;rw[Tryz.params4]at m hval;obtain⟨U,V,Y,Z,f,g,rfl,rfl,rfl,l,h1⟩:=trodAll_two m;obtain⟨rfl,rfl⟩:=trodVars_none E;have hv0:=hval 0 28 U aa aa;have Q:=hval 1 29 V aa aa;obtain⟨b,mH,c1,rfl⟩:=okWide_slice WQ Q;obtain⟨y,b0,old,o,n,g1,g2,A,c,ms,sz,bd,mo,rfl,hold,hc0,I,N⟩:=aul hv0 l;have D:=h1;obtain⟨fuel,u⟩:=h1;obtain⟨k,cs,i,dM,hsc,O,H⟩:=aup u;have B:(ae b mH c1)=ae k (q3 i) cs:=by grind[PJ]
 obtain⟨rfl,rfl,rfl⟩:b=k/\mH=i.length/\c1=cs:=aG;clear r w dM B u;simp only[List.append_nil]at a;have K:∀x∈f,x.block<W.heap.size:=λx hx=>by simpa using a.lt x aG
 have L:∀x∈g,x.block<W.heap.size:=λx hx=>by simpa using a.lt x aG
 obtain⟨S,M⟩:=atI P
 have F:=
  axM S y A b b0 c c1 o n sz bd mo g1 g2 _ ms i W M hold hc0 I N hsc O H;refine F.mono λe X ⟨G,d⟩=>?_;subst G;refine⟨_,aa,_,_,_,[],f++g,[],a,trodAll_mk1 (shut_bool true),?_,aa,d.below.frame _,λh=>aG⟩;exact trodAll_mk2 (p:=f) (p':=g) (aka Tryz.laidOut aw (of_decide_eq_true aw) l d.below K) (aka Tryz.laidOut aw (of_decide_eq_true aw) D d.below L)
def tconfined_holds:Rows.TopConfinedSaid:=
 OpenClaim.holds_of_wide 4 Tryz.f4 aa aa aa aa aa aa aa ⟨aa,aa,aa,aa,aa⟩ aa aa aa aa aa (by as_aux_lemma=>kernel_rfl) Tryz.func4 asD
  (of_decide_eq_true aw) (by unfold Func.isWrapper;first|(rw[if_pos (by decide+kernel)];kernel_rfl)|(rw[if_neg (by decide+kernel)];exact⟨aa,aa⟩))
  (λos b a enc _=>axN os b a enc)
#print axioms tconfined_holds
end Go.Proofs.YtcmhplknoglbkaaGreat
