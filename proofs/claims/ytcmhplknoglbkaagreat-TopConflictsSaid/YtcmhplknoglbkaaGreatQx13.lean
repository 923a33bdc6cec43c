/- The statement TopConflictsSaid holds for all inputs (no condition). -/
import Derived.Test.YtcmhplknoglbkaaGreatRows
import Derived.ProofKit
import Derived.SizedLaws
import Derived.Deep.Slices
import Derived.Deep.Fields
import Derived.ChangeSame
import Derived.ChangeSlices
import Derived.OpenShut
import Derived.HandedShaped
import Derived.Test.YtcmhplknoglbkaaGreatQx0
import Derived.Test.YtcmhplknoglbkaaGreatQx3
import Derived.Test.YtcmhplknoglbkaaGreatQx12
set_option linter.all false
set_option maxRecDepth 100000
set_option maxHeartbeats 4000000
open Go.Proofs.Tryz
open Bool renaming false->ao
open Go.Addr renaming add->wb
open Go.ChangeSpec renaming witness6->ax1
open Go.DataW renaming Trod->agB,trod->JP,trod_int->x2,trod_struct->Vh
open Go.IntKind renaming i64->R,u8->d'
open Go.Lit renaming int->Gv
open Go.Proofs.Tryz renaming prog->aw,underlying22->dL,underlying28->Wh,underlying3->jJ,underlying5->l2
open Go.Proofs.YtcmhplknoglbkaaGreat.Rows renaming topConflictsRow->WA,topConflictsSpec->WB
open Go.Value renaming int->J,okWide->DP,slice->ae
open Go.World renaming cell?_spot->aiF
open HAppend renaming hAppend->GJ
open List.cons renaming inj->KE
open List renaming drop_drop->KF,getElem?_cons_succ->vi,getElem?_eq_none->zU,getElem?_take->om,range->dG,take_append_drop->o1,take_of_length_le->tQ
open Option renaming some->ab
namespace Go.Proofs.YtcmhplknoglbkaaGreat
section
open Go.ChangeShapes Go.WideShapes Go.ChangeAt Go.RowKit Go.Deep
def Tryz.own:ownKnob aw.godebug=none:=ay
def Tryz.laidOut:laidOutB aw=true:=ay
def YT:aw.cellsOf 5=1:=ay
def alS:aw.cellsOf 23=32:=ay
def YS:aw.cellsOf 73=5:=ay
def alR:aw.cellsOf 26=67:=ay
def M0{n}(h:(Gv R n).wf=true):c4 n:=by have h1:R.min=-9223372036854775808:=rfl;have a:R.max=9223372036854775807:=rfl;simp only[Lit.wf,Bool.and_eq_true,decide_eq_true_eq]at h;exact⟨ad,ad⟩
def av7{n}(h:(Gv d' n).wf=true):0<=n/\n<256:=by have h1:d'.min=0:=rfl;have a:d'.max=255:=rfl;grind[Lit.wf]
section
variable {H:Type} {enc:TypeId×Value->H}
def shut_bool{W base a held}b:agB enc aw W base a held 4 (.bool b) (.lit (.bool b)) []:=⟨1,aY⟩
def adK{W n held e cs x}(h:JP enc aw W 0 n held e 22 cs=ab x):
 ∃A c l,cs=[ae A l.length c]/\bX W A l/\nI l/\l.length<=c/\c<=maxLen:=by
 rcases open_ints dL l2 YT h with⟨rfl,_⟩|⟨a,len,cap,d,rfl,_,o,i,hz,_,hc,m⟩;·exact⟨none,0,[],aa,bX.nil,λx hx=>aF,Nat.le_refl _,Nat.zero_le _⟩
 .have g:len<=d.length:=aF;refine⟨ab a,cap,d.take len,aF,λk=>?_,λx hx=>av7 (m x (List.mem_of_mem_take hx)),aF,i⟩;rw[List.length_take,Nat.min_eq_left g]at k⊢;obtain⟨b,off,p⟩:=a;have hspot:=by simpa [wb]using aiF (hc 0 ad)
  subst hspot;refine⟨b,_,rfl,λj f=>?_⟩;have h1:=hc j ad;rw[add_plain]at h1;rw[h1,om,if_pos f,List.getD_eq_getElem?_getD]
def arD{W b0 A n c}(hv:DP aw W .any b0 22 (ae A n c)):mW W A:=λb hb=>by obtain⟨o,a,rfl⟩:=hb;simp only[DP,dL,Cell.okWide,Cell.ok]at hv;obtain⟨_,_,_,_,row,cells,h,_⟩:=hv;grind[World.shape?]
def asF{W t held p cs x}(h:JP enc aw W 0 t held p 73 cs=ab x):
 ∃ m A c,cs=[J R m.k,J R m.to,J R m.fr,J R m.n,ae A m.data.length c]/\qz W m A c/\qj m/\nI m.data:=by
 obtain⟨xs,n,_,_,b,hx,a⟩:=Vh Tryz.underlying73 h;rw[YS]at b;match xs,hx with
 |[z,B,bF,da,hD],_=>
 match cs,b with
 |[w,y,v2,v3,v4],_=>
 have d:=a 0 _ aa;have e:=a 1 _ aa;have f:=a 2 _ aa;have g:=a 3 _ aa;have i:=a 4 _ aa;simp only[vi]at d e f g i;obtain⟨r,dN,_,Dj⟩:=x2 jJ d;obtain⟨fS,bB,_,w1⟩:=x2 jJ e;obtain⟨fD,bY,_,u⟩:=x2 jJ f;obtain⟨s,j,_,v⟩:=x2 jJ g;obtain⟨A,c,l,o,q,hb,hlc,hc⟩:=adK i;obtain rfl:=(KE dN).1;obtain rfl:=(KE bB).1;obtain rfl:=(KE bY).1;obtain rfl:=(KE j).1;obtain rfl:=(KE o).1;exact⟨⟨r,fS,fD,s,l⟩,A,c,aa,⟨q,hlc⟩,⟨M0 Dj,M0 w1,M0 u,M0 v,by grind[maxLen]⟩,hb⟩
def asG{W t held l cs x}(h:JP enc aw W 0 t held l 24 cs=ab x):
 ∃A c ms,cs=[ae A ms.length c]/\cX W A ms/\(∀m∈ms,qj m/\nI m.data):=by
 rcases open_slice Tryz.underlying24 h with⟨rfl,_⟩|⟨a,len,cap,m,n,D,u,rfl,_,y,s,B,_,hi⟩;·exact⟨_,0,[],rfl,λf=>absurd f a8,a8⟩
 .have z:len<=m:=aF
  have each:∀i,i<m->∃q:bJ×Option Addr×Nat,(∀j v,[J R q.1.k,J R q.1.to,J R q.1.fr,J R q.1.n,ae q.2.1 q.1.data.length q.2.2][j]?=ab v->W.cell? ((a.add (i*5)).add j)=ab v)/\qz W q.1 q.2.1 q.2.2/\qj q.1/\nI q.1.data:=by intro i hi';obtain⟨cs',h1,e⟩:=hi i hi';rw[YS]at h1;obtain⟨_,hlen,hcell⟩:=World.cells?_some h1;obtain⟨q,A,c,rfl,o,p,r⟩:=asF e;refine⟨(q,A,c),λj v d=>?_,o,p,r⟩;have w:=(List.getElem?_eq_some_iff.1 d).1;have:=hcell j ad;rw[this];simpa using d
  obtain⟨q,g⟩:=choose_lt each;refine⟨ab a,cap,(dG len).map (λi=>(q i).1),a8,λf=>?_,λm s=>?_⟩
  .have C:0<len:=aF;obtain⟨b,off,E⟩:=a
   have hspot:=by have h1:=(g 0 ad).1 0 _ aa;simpa [wb]using aiF h1
   subst hspot;refine⟨b,_,rfl,λj m d=>?_⟩;have hj':j<len:=aF;rw[List.getElem?_map,List.getElem?_range hj']at d;injection d with d;subst d;obtain⟨h1,e,_⟩:=g j ad;simp only[add_plain]at h1;exact⟨_,_,⟨h1 0 _ aa,h1 1 _ aa,h1 2 _ aa,h1 3 _ aa,h1 4 _ aa⟩,e⟩
  .grind
def adL{W f held c cs x}(h:JP enc aw W 0 f held c 23 cs=ab x):∃g:dS,cs=g.l.map bb:=by
 obtain⟨xs,m,_,_,d,hx,b⟩:=DataW.trod_array Tryz.underlying23 h;rw[alS]at d;rw[YT]at b
 have each:∀i,i<32->∃z,cs[i]?=ab _:=λi hi=>by
  have h1:=b i hi;rw[List.getElem?_eq_getElem ad,Nat.mul_one]at h1;obtain⟨z,e,_⟩:=x2 l2 h1;have a:((cs.drop i).take 1)[0]?=ab (bb z):=by rw[e];rfl
  rw[om,if_pos ad,List.getElem?_drop]at a;exact⟨z,a⟩
 obtain⟨z,hz⟩:=choose_lt each;refine⟨⟨(dG 32).map z,a8⟩,List.ext_getElem? λi=>?_⟩;by_cases hi:i<32;·rw[hz i hi];simp[hi]
 .rw[zU ad,zU (by simp;omega)]
end
end
def ar2:(((begin aw (λ_ _=>0) default).world.heap[0]?).bind Obj.row?)=ab (#[J R 0],3):=ay
def ar1{W:World}(h:W.ShapedOpen aw):∃m,W.cell? ⟨0,0,none⟩=ab (J R m):=by
 obtain⟨cs,h1,c,d⟩:=h.1 0 #[J R 0] 3 (Nat.le_of_ble_eq_true ay) ar2;obtain⟨k,a,hz,e⟩:=d ay;rw[show aw.cellTypes aw.depth 3=ab [3] by rfl]at a;injection a with a;subst a;obtain⟨l⟩:=cs;match l,c with
 |[v],_=>
  obtain⟨u,j,b⟩:=e 0 v aa;have g:3=u:=aF;subst g;clear hz;unfold Cell.ok at b;rw[jJ]at b;cases v<;>simp at b;rename_i i hk;obtain⟨rfl,_⟩:=b;have f:W.cell? ⟨0,0,none⟩=ab (J R i):=by grind[World.cell?]
  exact⟨_,f⟩
section
open Go.ChangeShapes Go.WideShapes Go.ChangeAt Go.RowKit Go.Deep
def alQ:aw.cellsOf 28=71:=ay
section
variable {H:Type} {enc:TypeId×Value->H}
def asH{W t held p l x}(h:JP enc aw W 0 t held p 26 l=ab x):
 ∃ o n g1 g2 A c ms,l=(a7 o n g1 g2 (ae A ms.length c)).toList/\cX W A ms/\(∀m∈ms,qj m/\nI m.data):=by
 obtain⟨xs,n,_,_,q,hx,a⟩:=Vh Tryz.underlying26 h;rw[alR]at q;match xs,hx with
 |[u,v,bF,da,hD],_=>
 have b:=a 0 _ aa;have d:=a 1 _ aa;have f:=a 2 _ aa;have g:=a 3 _ aa;have i:=a 4 _ aa;simp only[vi]at b d f g i;obtain⟨s,dN,_,_⟩:=x2 jJ b;obtain⟨fS,bB,_,_⟩:=x2 jJ d;obtain⟨g1,bY⟩:=adL f;obtain⟨g2,j⟩:=adL g;obtain⟨A,c,ms,k,r,ho⟩:=asG i;refine⟨s,fS,g1,g2,A,c,ms,?_,r,ho⟩;have e:l=(l.drop 0).take 1++((l.drop 1).take 1++((l.drop 2).take 32++((l.drop 34).take 32++(l.drop 66).take 1))):=by grind[tQ,KF,o1]
 unfold a7;rw[e];exact congr (congrArg GJ dN) (congr (congrArg GJ bB) (congr (congrArg GJ bY) (congr (congrArg _ j) k)))
def asE{W y held r b0 v d p}(hv:DP aw W r b0 28 v)(h:agB enc aw W 0 y held 28 v d p):
 ∃ b bZ old o n g1 g2 A c ms sz bd mo,v=.agg (mq [ae b old.length bZ] (a7 o n g1 g2 (ae A ms.length c)) [J R sz,J R bd,J R mo])/\bX W b old/\old.length<=bZ/\cX W A ms/\(∀m∈ms,qj m):=by
 obtain⟨cs,rfl,_⟩:=okWide_struct Wh hv;obtain⟨z,a⟩:=h;obtain⟨l⟩:=cs;simp only[Value.cells]at a;obtain⟨xs,n,_,_,t,hx,a⟩:=Vh Wh a;rw[alQ]at t;match xs,hx with
 |[B,C,bF,da,hD],_=>
 have f:=a 0 _ aa;have g:=a 1 _ aa;have i:=a 2 _ aa;have j:=a 3 _ aa;have k:=a 4 _ aa;simp only[vi]at f g i j k;obtain⟨b,bZ,old,dN,hs0,_,hlc,_⟩:=adK f;obtain⟨o,x,g1,g2,A,c,ms,bB,w,ho⟩:=asH g;obtain⟨sz,bY,_,_⟩:=x2 jJ i;obtain⟨bd,q,_,_⟩:=x2 jJ j;obtain⟨mo,s,_,_⟩:=x2 jJ k;refine⟨b,bZ,_,o,x,g1,g2,A,c,ms,sz,bd,mo,?_,hs0,hlc,w,λm u=>(ho m u).1⟩;have e:l=(l.drop 0).take 1++((l.drop 1).take 67++((l.drop 68).take 1++((l.drop 69).take 1++(l.drop 70).take 1))):=by grind[tQ,KF,o1]
 unfold mq;congr 1;congr 1;rw[e];exact congr (congrArg GJ dN) (congr (congrArg GJ bB) (congr (congrArg GJ bY) (congr (congrArg _ q) s)))
end
end
abbrev NB:=WA
def aqX:laidOutB aw=true:=ay
def aqY:mapsRowed aw=true:=ay
def aqW:(NB.inPlace==aw.inPlace 7)=true:=ay
def aq1:(NB.unfollowed==aw.unfollowed 7)=true:=ay
def aq0:(NB.recurses==aw.recurses 7)=true:=ay
def aqZ:(NB.named==aw.varsNamed 7)=true:=ay
def aqV:joinedFacts aw 7 Tryz.f7 WB WA=true:=by unfold joinedFacts;rw[aqX,aqY,aqW,aq1,aq0,aqZ];kernel_rfl
open Go.ChangeShapes Go.WideShapes Go.ChangeAt Go.RowKit Go.Deep
def alG:(aw.cellTypes aw.depth 28).map (λa=>a[0%a.length]?)=ab (ab 22):=ay
def arC{W b0 n c A D l}(hv:DP aw W .any b0 28 (.agg (mq [ae A n c] D l))):mW W A:=by simp only[DP,Wh]at hv;obtain⟨cs,e,_,f,b,_,hc⟩:=hv;obtain⟨u,d,h⟩:=hc 0 (ae A n c) (by grind[np]);have a:=alG;rw[b,Option.map_some,d]at a;obtain rfl:u=22:=aF;exact arD (n:=n) (c:=c) (b0:=b0) (by grind[DP,dL])
def avU os(G:os.Started)m(enc:TypeId×Value->m):
 ReturnsInHanded {} Tryz.checked os 7 .any (WB.pre6 enc aw Tryz.f7 WA.domain ao) (WB.post enc aw Tryz.f7 ao true ao ao):=by
 refine returnsInHanded_of_change_shaped (C:=_) Tryz.own G ay Tryz.func7
  (ax1 (enc:=_) (C:=_) _ ⟨#[],#[.agg (mq [ae none 0 0] (a7 0 0 dS.zero dS.zero (ae none 0 0)) [J R 0,J R 0,J R 0])],[]⟩ 8 ay ay ay ay) ?_;intro W base args ds L before k g _ _ E _;have hval:∀(j) t v,Tryz.f7.params[j]?=ab t->args[j]?=ab v->DP aw W _ _ t v:=k;have a:=g;obtain⟨p,q,f,r,rfl,_,_⟩:=g;have d:DataW.TrodAll _ aw W 0 (λ_=>true) _ _ _ ds p:=f;rw[Tryz.params7]at d hval;obtain⟨H,K,rfl,rfl,b⟩:=trodAll_one d;obtain⟨rfl,rfl⟩:=trodVars_none r;have hv0:=hval 0 28 H aa aa;obtain⟨l,bZ,old,o,n,g1,g2,A,c,ms,sz,bd,mo,rfl,hold,hc0,w,D⟩:=asE hv0 b;have y:=arC hv0;clear f k;simp only[List.append_nil]at a;have z:∀x∈p,x.block<W.heap.size:=λx hx=>by simpa using a.lt x ad
 obtain⟨F,B⟩:=ar1 E
 have s:=
  av5 F l A bZ c o n sz bd mo g1 g2 _ ms W B hold y hc0 w D;refine s.mono λe I ⟨u,i⟩=>?_;subst u;refine⟨_,aa,_,_,_,[],p,[],a,trodAll_mk1 (shut_bool true),?_,aa,i.below.frame _,λh=>aF⟩;exact trodAll_mk1 (Below.trod Tryz.laidOut ay (of_decide_eq_true ay) b i.below z)
def tconflicts_holds:Rows.TopConflictsSaid:=
 OpenClaim.holds_of_wide 7 Tryz.f7 aa aa aa aa aa aa aa ⟨aa,aa,aa,aa,aa⟩ aa aa aa aa aa (by as_aux_lemma=>kernel_rfl) Tryz.func7 aqV
  (of_decide_eq_true ay) (by unfold Func.isWrapper;first|(rw[if_pos (by decide+kernel)];kernel_rfl)|(rw[if_neg (by decide+kernel)];exact⟨aa,aa⟩))
  (λos b a enc _=>avU os b a enc)
#print axioms tconflicts_holds
end Go.Proofs.YtcmhplknoglbkaaGreat
