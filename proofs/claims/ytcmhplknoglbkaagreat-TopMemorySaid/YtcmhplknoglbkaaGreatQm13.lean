/- The statement TopMemorySaid holds for all inputs (no condition). -/
import Derived.Test.YtcmhplknoglbkaaGreatRows
import Derived.ProofKit
import Derived.SizedLaws
import Derived.Deep.Slices
import Derived.Deep.Fields
import Derived.ChangeSame
import Derived.ChangeSlices
import Derived.OpenShut
import Derived.HandedShaped
import Derived.Test.YtcmhplknoglbkaaGreatQm0
import Derived.Test.YtcmhplknoglbkaaGreatQm3
import Derived.Test.YtcmhplknoglbkaaGreatQm12
set_option linter.all false
set_option maxRecDepth 100000
set_option maxHeartbeats 4000000
open Go.Proofs.Tryz
open Bool renaming false->ao
open Go.Addr renaming add->u7
open Go.ChangeSpec renaming witness6->azs
open Go.DataW renaming Trod->ahY,trod->DT,trod_int->u9,trod_struct->OW
open Go.Deep renaming choose_lt->Vt
open Go.IntKind renaming i64->R,u8->dO
open Go.Lit renaming int->Gy
open Go.Proofs.Tryz renaming prog->ax,underlying29->Wx,underlying3->jD,underlying5->mm
open Go.Proofs.YtcmhplknoglbkaaGreat.Rows renaming topMemoryRow->WT,topMemorySpec->WU
open Go.RowKit.Below renaming trod->aj6
open Go.Value renaming cells->Px,int->J,okWide->aj7,slice->ae
open Go.WideShapes renaming add_plain->KL
open Go.World renaming cell?_spot->WZ,cells?_some->akc
open HAppend renaming hAppend->GO
open List.cons renaming inj->Ei
open List renaming drop_drop->QH,getElem?_cons_succ->vq,getElem?_eq_none->Hf,getElem?_eq_some_iff->eJ,getElem?_take->tR,length->q4,range->dQ,take_append_drop->oa,take_of_length_le->tU
open Option renaming none->af,some->ab
namespace Go.Proofs.YtcmhplknoglbkaaGreat
section
open Go.ChangeShapes Go.WideShapes Go.ChangeAt Go.RowKit Go.Deep
def Tryz.own:ownKnob ax.godebug=none:=aw
def Tryz.laidOut:laidOutB ax=true:=aw
def Y9:ax.cellsOf 5=1:=aw
def anw:ax.cellsOf 23=32:=aw
def Y7:ax.cellsOf 73=5:=aw
def anu:ax.cellsOf 26=67:=aw
def I2{n}(h:(Gy R n).wf=true):cO n:=by have h1:R.min=-9223372036854775808:=rfl;have a:R.max=9223372036854775807:=rfl;simp only[Lit.wf,Bool.and_eq_true,decide_eq_true_eq]at h;exact⟨ad,ad⟩
def axR{n}(h:(Gy dO n).wf=true):0<=n/\n<256:=by have h1:dO.min=0:=rfl;have a:dO.max=255:=rfl;grind[Lit.wf]
section
variable {H:Type} {enc:TypeId×Value->H}
def shut_bool{W base a held}b:ahY enc ax W base a held 4 (.bool b) (.lit (.bool b)) []:=⟨1,bc⟩
def aev{W n held e cs x}(h:DT enc ax W 0 n held e 22 cs=ab x):
 ∃A c l,cs=[ae A l.length c]/\b2 W A l/\n' l/\l.length<=c/\c<=maxLen:=by
 rcases open_ints Tryz.underlying22 mm Y9 h with⟨rfl,_⟩|⟨a,len,cap,d,rfl,_,o,i,hz,_,hc,m⟩;·exact⟨af,0,[],aa,b2.nil,λx hx=>aH,Nat.le_refl _,Nat.zero_le _⟩
 .have g:len<=d.length:=aH;refine⟨ab a,cap,d.take len,aH,λk=>?_,λx hx=>axR (m x (List.mem_of_mem_take hx)),aH,i⟩;rw[List.length_take,Nat.min_eq_left g]at k⊢;obtain⟨b,off,p⟩:=a;have hspot:=by simpa [u7]using WZ (hc 0 ad)
  subst hspot;refine⟨b,_,rfl,λj f=>?_⟩;have h1:=hc j ad;rw[KL]at h1;rw[h1,tR,if_pos f,List.getD_eq_getElem?_getD]
def aui{W t held p cs x}(h:DT enc ax W 0 t held p 73 cs=ab x):
 ∃ m A c,cs=[J R m.k,J R m.to,J R m.fr,J R m.n,ae A m.data.length c]/\p0 W m A c/\pG m/\n' m.data:=by
 obtain⟨xs,n,_,_,b,hx,a⟩:=OW Tryz.underlying73 h;rw[Y7]at b;match xs,hx with
 |[z,B,bG,da,hW],_=>
 match cs,b with
 |[w,y,v2,v3,v4],_=>
 have d:=a 0 _ aa;have e:=a 1 _ aa;have f:=a 2 _ aa;have g:=a 3 _ aa;have i:=a 4 _ aa;simp only[vq]at d e f g i;obtain⟨r,dE,_,zy⟩:=u9 jD d;obtain⟨c8,bE,_,w1⟩:=u9 jD e;obtain⟨c4,cr,_,u⟩:=u9 jD f;obtain⟨s,j,_,v⟩:=u9 jD g;obtain⟨A,c,l,o,q,hb,hlc,hc⟩:=aev i;obtain rfl:=(Ei dE).1;obtain rfl:=(Ei bE).1;obtain rfl:=(Ei cr).1;obtain rfl:=(Ei j).1;obtain rfl:=(Ei o).1;exact⟨⟨r,c8,c4,s,l⟩,A,c,aa,⟨q,hlc⟩,⟨I2 zy,I2 w1,I2 u,I2 v,by grind[maxLen]⟩,hb⟩
def auj{W t held l cs x}(h:DT enc ax W 0 t held l 24 cs=ab x):
 ∃A c ms,cs=[ae A ms.length c]/\cU W A ms/\(∀m∈ms,pG m/\n' m.data):=by
 rcases open_slice Tryz.underlying24 h with⟨rfl,_⟩|⟨a,len,cap,m,n,D,u,rfl,_,y,s,B,_,hi⟩;·exact⟨_,0,[],rfl,λf=>absurd f bg,bg⟩
 .have z:len<=m:=aH
  have each:∀i,i<m->∃q:bO×Option Addr×Nat,(∀j v,[J R q.1.k,J R q.1.to,J R q.1.fr,J R q.1.n,ae q.2.1 q.1.data.length q.2.2][j]?=ab v->W.cell? ((a.add (i*5)).add j)=ab v)/\p0 W q.1 q.2.1 q.2.2/\pG q.1/\n' q.1.data:=by intro i hi';obtain⟨cs',h1,e⟩:=hi i hi';rw[Y7]at h1;obtain⟨_,hlen,hcell⟩:=akc h1;obtain⟨q,A,c,rfl,o,p,r⟩:=aui e;refine⟨(q,A,c),λj v d=>?_,o,p,r⟩;have w:=(eJ.1 d).1;have:=hcell j ad;rw[this];simpa using d
  obtain⟨q,g⟩:=Vt each;refine⟨ab a,cap,(dQ len).map (λi=>(q i).1),bg,λf=>?_,λm s=>?_⟩
  .have C:0<len:=aH;obtain⟨b,off,E⟩:=a
   have hspot:=by have h1:=(g 0 ad).1 0 _ aa;simpa [u7]using WZ h1
   subst hspot;refine⟨b,_,rfl,λj m d=>?_⟩;have hj':j<len:=aH;rw[List.getElem?_map,List.getElem?_range hj']at d;injection d with d;subst d;obtain⟨h1,e,_⟩:=g j ad;simp only[KL]at h1;exact⟨_,_,⟨h1 0 _ aa,h1 1 _ aa,h1 2 _ aa,h1 3 _ aa,h1 4 _ aa⟩,e⟩
  .grind
def aew{W f held c cs x}(h:DT enc ax W 0 f held c 23 cs=ab x):∃g:dq,cs=g.l.map a6:=by
 obtain⟨xs,m,_,_,d,hx,b⟩:=DataW.trod_array Tryz.underlying23 h;rw[anw]at d;rw[Y9]at b
 have each:∀i,i<32->∃z,cs[i]?=ab _:=λi hi=>by
  have h1:=b i hi;rw[List.getElem?_eq_getElem ad,Nat.mul_one]at h1;obtain⟨z,e,_⟩:=u9 mm h1;have a:((cs.drop i).take 1)[0]?=ab (a6 z):=by rw[e];rfl
  rw[tR,if_pos ad,List.getElem?_drop]at a;exact⟨z,a⟩
 obtain⟨z,hz⟩:=Vt each;refine⟨⟨(dQ 32).map z,bg⟩,List.ext_getElem? λi=>?_⟩;by_cases hi:i<32;·rw[hz i hi];simp[hi]
 .rw[Hf ad,Hf (by simp;omega)]
end
end
def atH:(((begin ax (λ_ _=>0) default).world.heap[0]?).bind Obj.row?)=ab (#[J R 0],3):=aw
def atG{W:World}(h:W.ShapedOpen ax):∃m,W.cell? ⟨0,0,af⟩=ab (J R m):=by
 obtain⟨cs,h1,c,d⟩:=h.1 0 #[J R 0] 3 (Nat.le_of_ble_eq_true aw) atH;obtain⟨k,a,hz,e⟩:=d aw;rw[show ax.cellTypes ax.depth 3=ab [3] by rfl]at a;injection a with a;subst a;obtain⟨l⟩:=cs;match l,c with
 |[v],_=>
  obtain⟨u,j,b⟩:=e 0 v aa;have g:3=u:=aH;subst g;clear hz;unfold Cell.ok at b;rw[jD]at b;cases v<;>simp at b;rename_i i hk;obtain⟨rfl,_⟩:=b;have f:W.cell? ⟨0,0,af⟩=ab (J R i):=by grind[World.cell?]
  exact⟨_,f⟩
abbrev N7:=WT
def asI:laidOutB ax=true:=aw
def asJ:mapsRowed ax=true:=aw
def asH:(N7.inPlace==ax.inPlace 5)=true:=aw
def asM:(N7.unfollowed==ax.unfollowed 5)=true:=aw
def asL:(N7.recurses==ax.recurses 5)=true:=aw
def asK:(N7.named==ax.varsNamed 5)=true:=aw
def asG:joinedFacts ax 5 Tryz.f5 WU WT=true:=by unfold joinedFacts;rw[asI,asJ,asH,asM,asL,asK];kernel_rfl
section
open Go.ChangeShapes Go.WideShapes Go.ChangeAt Go.RowKit Go.Deep
def Y8:ax.cellsOf 44=2:=aw
def ant:ax.cellsOf 28=71:=aw
section
variable {H:Type} {enc:TypeId×Value->H}
def aum{W t held p l x}(h:DT enc ax W 0 t held p 26 l=ab x):
 ∃ o n g1 g2 A c ms,l=(bb o n g1 g2 (ae A ms.length c)).toList/\cU W A ms/\(∀m∈ms,pG m/\n' m.data):=by
 obtain⟨xs,n,_,_,q,hx,a⟩:=OW Tryz.underlying26 h;rw[anu]at q;match xs,hx with
 |[u,v,bG,da,hW],_=>
 have b:=a 0 _ aa;have d:=a 1 _ aa;have f:=a 2 _ aa;have g:=a 3 _ aa;have i:=a 4 _ aa;simp only[vq]at b d f g i;obtain⟨s,dE,_,_⟩:=u9 jD b;obtain⟨c8,bE,_,_⟩:=u9 jD d;obtain⟨g1,cr⟩:=aew f;obtain⟨g2,j⟩:=aew g;obtain⟨A,c,ms,k,r,ho⟩:=auj i;refine⟨s,c8,g1,g2,A,c,ms,?_,r,ho⟩;have e:l=(l.drop 0).take 1++((l.drop 1).take 1++((l.drop 2).take 32++((l.drop 34).take 32++(l.drop 66).take 1))):=by grind[tU,QH,oa]
 unfold bb;rw[e];exact congr (congrArg GO dE) (congr (congrArg GO bE) (congr (congrArg GO cr) (congr (congrArg _ j) k)))
def auh{W y held r kl v d p}(hv:aj7 ax W r kl 28 v)(h:ahY enc ax W 0 y held 28 v d p):
 ∃ b b0 old o n g1 g2 A c ms sz bd mo,v=.agg (fu [ae b old.length b0] (bb o n g1 g2 (ae A ms.length c)) [J R sz,J R bd,J R mo])/\b2 W b old/\old.length<=b0/\cU W A ms/\(∀m∈ms,pG m):=by
 obtain⟨cs,rfl,_⟩:=okWide_struct Tryz.underlying28 hv;obtain⟨z,a⟩:=h;obtain⟨l⟩:=cs;simp only[Px]at a;obtain⟨xs,n,_,_,t,hx,a⟩:=OW Tryz.underlying28 a;rw[ant]at t;match xs,hx with
 |[B,C,bG,da,hW],_=>
 have f:=a 0 _ aa;have g:=a 1 _ aa;have i:=a 2 _ aa;have j:=a 3 _ aa;have k:=a 4 _ aa;simp only[vq]at f g i j k;obtain⟨b,b0,old,dE,hs0,_,hlc,_⟩:=aev f;obtain⟨o,x,g1,g2,A,c,ms,bE,w,ho⟩:=aum g;obtain⟨sz,cr,_,_⟩:=u9 jD i;obtain⟨bd,q,_,_⟩:=u9 jD j;obtain⟨mo,s,_,_⟩:=u9 jD k;refine⟨b,b0,_,o,x,g1,g2,A,c,ms,sz,bd,mo,?_,hs0,hlc,w,λm u=>(ho m u).1⟩;have e:l=(l.drop 0).take 1++((l.drop 1).take 67++((l.drop 68).take 1++((l.drop 69).take 1++(l.drop 70).take 1))):=by grind[tU,QH,oa]
 unfold fu;congr 1;congr 1;rw[e];exact congr (congrArg GO dE) (congr (congrArg GO bE) (congr (congrArg GO cr) (congr (congrArg _ q) s)))
def auk{W g held e cs x}(h:DT enc ax W 0 g held e 44 cs=ab x):
 ∃k:Int×Int,cs=[J R k.1,J .u64 k.2]/\cO k.1:=by
 obtain⟨xs,n,_,_,b,hx,a⟩:=OW underlying44 h;rw[Y8]at b;match xs,hx with
 |[l,m],_=>
 match cs,b with
 |[i,j],_=>
 have c:=a 0 _ aa;have d:=a 1 _ aa;simp only[vq]at c d;obtain⟨f,dE,_,zy⟩:=u9 jD c;obtain⟨c8,bE,_,w1⟩:=u9 Tryz.underlying42 d;obtain rfl:=(Ei dE).1;obtain rfl:=(Ei bE).1;exact⟨(f,c8),aa,I2 zy⟩
def aul{W E held y cs x}(h:DT enc ax W 0 E held y 29 cs=ab x):
 ∃A c l,cs=[ae A (q4 l) c]/\Cells W 2 A (q4 l) (iA l)/\(0<q4 l->∀p,A=ab p->p.spot=af)/\∀k∈l,cO k.1:=by
 rcases open_slice Wx h with⟨rfl,_⟩|⟨a,len,cap,m,n,D,F,rfl,_,I,L,M,_,hi⟩;·exact⟨_,0,[],aa,⟨rfl,λh=>absurd h aS⟩,λh=>absurd h aS,λ_ h=>(List.not_mem_nil h).elim⟩
 .have K:len<=m:=aH
  have each:∀i,i<m->∃k:Int×Int,(∀j v,[J R k.1,J .u64 k.2][j]?=ab v->W.cell? ((a.add (i*2)).add j)=ab v)/\cO k.1:=by intro i hi';obtain⟨cs',h1,o⟩:=hi i hi';rw[Y8]at h1;obtain⟨_,hlen,hcell⟩:=akc h1;obtain⟨k,rfl,f⟩:=auk o;refine⟨k,λj v d=>?_,f⟩;have H:=(eJ.1 d).1;have:=hcell j ad;rw[this];simpa using d
  obtain⟨q,w⟩:=Vt each
  have hsp:0<len->a.spot=none:=λz=>by have h1:=(w 0 ad).1 0 _ aa;simpa [u7]using WZ h1
  refine⟨ab a,cap,(dQ len).map q,bg,⟨by rw[Zl],λN=>⟨a,rfl,λj u d=>?_⟩⟩,λz p e=>aH,λk hk=>?_⟩
  .have C:0<len:=aH;have o:=hsp C;obtain⟨b,off,spot⟩:=a;simp only at o;subst o;have B:=(eJ.1 d).1;rw[Zl,List.length_map,List.length_range]at B;have G:j/2<len:=ad;have hx:((dQ len).map q)[j/2]?=ab (q (j/2)):=aH;have f:=(w (j/2) ad).1;simp only[KL]at f;have s:j%2=0\/j%2=1:=ad;rcases s with s|s;·have g:=LY hx 0 _ aa;have r:j/2*2+0=j:=ad;rw[r,d]at g;cases g;have t:=f 0 _ aa;rw[KL];rwa [show off+j/2*2+0=off+j by omega]at t
   .have g:=LY hx 1 _ aa;have r:j/2*2+1=j:=ad;rw[r,d]at g;cases g;have t:=f 1 _ aa;rw[KL];rwa [show off+j/2*2+1=off+j by omega]at t
  .grind
end
end
open Go.ChangeShapes Go.WideShapes Go.ChangeAt Go.RowKit Go.Deep
def axN os(T:os.Started)z(enc:TypeId×Value->z):
 ReturnsInHanded {} Tryz.checked os 5 .any (WU.pre6 enc ax Tryz.f5 WT.domain ao) (WU.post enc ax Tryz.f5 ao true ao ao):=by
 refine returnsInHanded_of_change_shaped (C:=_) Tryz.own T aw Tryz.func5
  (azs (enc:=_) (C:=_) _ ⟨#[],#[.agg (fu [ae af 0 0] (bb 0 0 dq.zero dq.zero (ae af 0 0)) [J R 0,J R 0,J R 0]),ae af 0 0],[]⟩ 8 aw aw aw aw) ?_;intro W base args ds gs before w s _ _ P _;have hval:∀(j) t v,Tryz.f5.params[j]?=ab t->args[j]?=ab v->aj7 ax W _ _ t v:=w;have a:=s;obtain⟨p,q,r,E,rfl,_,_⟩:=s;have m:DataW.TrodAll _ ax W 0 (λ_=>true) _ _ _ ds p:=r;rw[Tryz.params5]at m hval;obtain⟨U,V,Y,Z,f,g,rfl,rfl,rfl,l,h1⟩:=trodAll_two m;obtain⟨rfl,rfl⟩:=trodVars_none E;have hv0:=hval 0 28 U aa aa;have Q:=hval 1 29 V aa aa;obtain⟨b,mI,c1,rfl⟩:=okWide_slice Wx Q;obtain⟨y,b0,old,o,n,g1,g2,A,c,ms,sz,bd,mo,rfl,hold,hc0,I,N⟩:=auh hv0 l;have D:=h1;obtain⟨fuel,u⟩:=h1;obtain⟨k,cs,i,dE,hsc,O,H⟩:=aul u;have B:(ae b mI c1)=ae k (q4 i) cs:=by grind[Px]
 obtain⟨rfl,rfl,rfl⟩:b=k/\mI=i.length/\c1=cs:=aH;clear r w dE B u;simp only[List.append_nil]at a;have K:∀x∈f,x.block<W.heap.size:=λx hx=>by simpa using a.lt x aH
 have L:∀x∈g,x.block<W.heap.size:=λx hx=>by simpa using a.lt x aH
 obtain⟨S,M⟩:=atG P
 have F:=
  axM S y A b b0 c c1 o n sz bd mo g1 g2 _ ms i W M hold hc0 I N hsc O H;refine F.mono λe X ⟨G,d⟩=>?_;subst G;refine⟨_,aa,_,_,_,[],f++g,[],a,trodAll_mk1 (shut_bool true),?_,aa,d.below.frame _,λh=>aH⟩;exact trodAll_mk2 (p:=f) (p':=g) (aj6 Tryz.laidOut aw (of_decide_eq_true aw) l d.below K) (aj6 Tryz.laidOut aw (of_decide_eq_true aw) D d.below L)
def tmemory_holds:Rows.TopMemorySaid:=
 OpenClaim.holds_of_wide 5 Tryz.f5 aa aa aa aa aa aa aa ⟨aa,aa,aa,aa,aa⟩ aa aa aa aa aa (by as_aux_lemma=>kernel_rfl) Tryz.func5 asG
  (of_decide_eq_true aw) (by unfold Func.isWrapper;first|(rw[if_pos (by decide+kernel)];kernel_rfl)|(rw[if_neg (by decide+kernel)];exact⟨aa,aa⟩))
  (λos b a enc _=>axN os b a enc)
#print axioms tmemory_holds
end Go.Proofs.YtcmhplknoglbkaaGreat
