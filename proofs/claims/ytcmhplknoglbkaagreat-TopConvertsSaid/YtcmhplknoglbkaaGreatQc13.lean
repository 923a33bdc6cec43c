/- The statement TopConvertsSaid holds for all inputs (no condition). -/
import Derived.Test.YtcmhplknoglbkaaGreatRows
import Derived.ProofKit
import Derived.SizedLaws
import Derived.Deep.Slices
import Derived.Deep.Fields
import Derived.ChangeSame
import Derived.ChangeSlices
import Derived.OpenShut
import Derived.HandedShaped
import Derived.Test.YtcmhplknoglbkaaGreatQc0
import Derived.Test.YtcmhplknoglbkaaGreatQc3
import Derived.Test.YtcmhplknoglbkaaGreatQc12
set_option linter.all false
set_option maxRecDepth 100000
set_option maxHeartbeats 4000000
open Go.Proofs.Tryz
open Bool renaming false->au
open Go.Addr renaming add->we
open Go.ChangeSpec renaming witness6->axB
open Go.DataW renaming Trod->agj,trod->OD,trod_int->Dg,trod_struct->agk
open Go.IntKind renaming i64->R,u8->d'
open Go.Lit renaming int->FW
open Go.Proofs.Tryz renaming prog->ax,underlying22->dI,underlying26->F5,underlying3->j2,underlying5->lj
open Go.Proofs.YtcmhplknoglbkaaGreat.Rows renaming topConvertsRow->Wt,topConvertsSpec->Wu
open Go.RowKit.Below renaming trod->ail
open Go.Value renaming cells->Pd,int->J,okWide->Pe,slice->ad
open Go.World renaming cell?_spot->aiq
open HAppend renaming hAppend->WL
open List.cons renaming inj->Kr
open List renaming getElem?_cons_succ->x8,getElem?_eq_none->GL,getElem?_take->tE,range->dF
open Option renaming some->ab
namespace Go.Proofs.YtcmhplknoglbkaaGreat
section
open Go.ChangeShapes Go.WideShapes Go.ChangeAt Go.RowKit Go.Deep
def Tryz.own:ownKnob ax.godebug=none:=aw
def Tryz.laidOut:laidOutB ax=true:=aw
def YB:ax.cellsOf 5=1:=aw
def alu:ax.cellsOf 23=32:=aw
def YA:ax.cellsOf 73=5:=aw
def als:ax.cellsOf 26=67:=aw
def MO{n}(h:(FW R n).wf=true):db n:=by have h1:R.min=-9223372036854775808:=rfl;have a:R.max=9223372036854775807:=rfl;simp only[Lit.wf,Bool.and_eq_true,decide_eq_true_eq]at h;exact⟨ae,ae⟩
def avL{n}(h:(FW d' n).wf=true):0<=n/\n<256:=by have h1:d'.min=0:=rfl;have a:d'.max=255:=rfl;grind[Lit.wf]
section
variable {H:Type} {enc:TypeId×Value->H}
def shut_bool{W base a held}b:agj enc ax W base a held 4 (.bool b) (.lit (.bool b)) []:=⟨1,aS⟩
def adk{W n held e cs x}(h:OD enc ax W 0 n held e 22 cs=ab x):
 ∃A c l,cs=[ad A l.length c]/\bR W A l/\jG l/\l.length<=c/\c<=maxLen:=by
 rcases open_ints dI lj YB h with⟨rfl,_⟩|⟨a,len,cap,d,rfl,_,o,i,hz,_,hc,m⟩;·exact⟨none,0,[],aa,bR.nil,λx hx=>aF,Nat.le_refl _,Nat.zero_le _⟩
 .have g:len<=d.length:=aF;refine⟨ab a,cap,d.take len,aF,λk=>?_,λx hx=>avL (m x (List.mem_of_mem_take hx)),aF,i⟩;rw[List.length_take,Nat.min_eq_left g]at k⊢;obtain⟨b,off,p⟩:=a;have hspot:=by simpa [we]using aiq (hc 0 ae)
  subst hspot;refine⟨b,_,rfl,λj f=>?_⟩;have h1:=hc j ae;rw[add_plain]at h1;rw[h1,tE,if_pos f,List.getD_eq_getElem?_getD]
def aro{W kW A n c}(hv:Pe ax W .any kW 22 (ad A n c)):nE W A:=λb hb=>by obtain⟨o,a,rfl⟩:=hb;simp only[Pe,dI,Cell.okWide,Cell.ok]at hv;obtain⟨_,_,_,_,row,cells,h,_⟩:=hv;grind[World.shape?]
def aso{W v held p cs x}(h:OD enc ax W 0 v held p 73 cs=ab x):
 ∃ m A c,cs=[J R m.k,J R m.to,J R m.fr,J R m.n,ad A m.data.length c]/\qi W m A c/\r1 m/\jG m.data:=by
 obtain⟨xs,n,_,_,b,hx,a⟩:=agk Tryz.underlying73 h;rw[YA]at b;match xs,hx with
 |[C,D,bp,c7,iw],_=>
 match cs,b with
 |[z,B,v2,v3,v4],_=>
 have d:=a 0 _ aa;have e:=a 1 _ aa;have f:=a 2 _ aa;have g:=a 3 _ aa;have i:=a 4 _ aa;simp only[x8]at d e f g i;obtain⟨r,dS,_,CY⟩:=Dg j2 d;obtain⟨s,bB,_,w1⟩:=Dg j2 e;obtain⟨t,b7,_,w⟩:=Dg j2 f;obtain⟨u,j,_,y⟩:=Dg j2 g;obtain⟨A,c,l,o,q,hb,hlc,hc⟩:=adk i;obtain rfl:=(Kr dS).1;obtain rfl:=(Kr bB).1;obtain rfl:=(Kr b7).1;obtain rfl:=(Kr j).1;obtain rfl:=(Kr o).1;exact⟨⟨r,s,t,u,l⟩,A,c,aa,⟨q,hlc⟩,⟨MO CY,MO w1,MO w,MO y,by grind[maxLen]⟩,hb⟩
def asp{W u held o cs x}(h:OD enc ax W 0 u held o 24 cs=ab x):
 ∃A c ms,cs=[ad A ms.length c]/\cC W A ms/\(∀m∈ms,r1 m/\jG m.data):=by
 rcases open_slice Tryz.underlying24 h with⟨rfl,_⟩|⟨a,len,cap,m,n,D,w,rfl,_,z,t,C,_,hi⟩;·exact⟨_,0,[],rfl,λf=>absurd f aT,aT⟩
 .have B:len<=m:=aF
  have l:∀i,i<m->∃q:bG×Option Addr×Nat,(∀j v,[J R q.1.k,J R q.1.to,J R q.1.fr,J R q.1.n,ad q.2.1 q.1.data.length q.2.2][j]?=ab v->W.cell? ((a.add (i*5)).add j)=ab v)/\qi W q.1 q.2.1 q.2.2/\r1 q.1/\jG q.1.data:=by intro i hi';obtain⟨cs',h1,e⟩:=hi i hi';rw[YA]at h1;obtain⟨_,hlen,hcell⟩:=World.cells?_some h1;obtain⟨q,A,c,rfl,p,r,s⟩:=aso e;refine⟨(q,A,c),λj v d=>?_,p,r,s⟩;have y:=(List.getElem?_eq_some_iff.1 d).1;have:=hcell j ae;rw[this];simpa using d
  obtain⟨q,g⟩:=choose_lt l;refine⟨ab a,cap,(dF len).map (λi=>(q i).1),aT,λf=>?_,λm t=>?_⟩
  .have E:0<len:=aF;obtain⟨b,off,F⟩:=a
   have hspot:=by have h1:=(g 0 ae).1 0 _ aa;simpa [we]using aiq h1
   subst hspot;refine⟨b,_,rfl,λj m d=>?_⟩;have hj':j<len:=aF;rw[List.getElem?_map,List.getElem?_range hj']at d;injection d with d;subst d;obtain⟨h1,e,_⟩:=g j ae;simp only[add_plain]at h1;exact⟨_,_,⟨h1 0 _ aa,h1 1 _ aa,h1 2 _ aa,h1 3 _ aa,h1 4 _ aa⟩,e⟩
  .grind
def adl{W j held d cs x}(h:OD enc ax W 0 j held d 23 cs=ab x):∃g:dX,cs=g.l.map a8:=by
 obtain⟨xs,m,_,_,f,hx,b⟩:=DataW.trod_array Tryz.underlying23 h;rw[alu]at f;rw[YB]at b
 have c:∀i,i<32->∃z,cs[i]?=ab _:=λi hi=>by
  have h1:=b i hi;rw[List.getElem?_eq_getElem ae,Nat.mul_one]at h1;obtain⟨z,e,_⟩:=Dg lj h1;have a:((cs.drop i).take 1)[0]?=ab (a8 z):=by rw[e];rfl
  rw[tE,if_pos ae,List.getElem?_drop]at a;exact⟨z,a⟩
 obtain⟨z,hz⟩:=choose_lt c;refine⟨⟨(dF 32).map z,aT⟩,List.ext_getElem? λi=>?_⟩;by_cases hi:i<32;·rw[hz i hi];simp[hi]
 .rw[GL ae,GL (by simp;omega)]
def asq{W y held r kW v d p}(hv:Pe ax W r kW 26 v)(h:agj enc ax W 0 y held 26 v d p):
 ∃ o n g1 g2 A c ms,v=dC o n g1 g2 (ad A ms.length c)/\cC W A ms/\(∀m∈ms,r1 m/\jG m.data):=by
 obtain⟨cs,rfl,_⟩:=okWide_struct F5 hv;obtain⟨z,a⟩:=h;obtain⟨l⟩:=cs;simp only[Pd]at a;obtain⟨xs,n,_,_,s,hx,a⟩:=agk F5 a;rw[als]at s;match xs,hx with
 |[B,C,bp,c7,iw],_=>
 have b:=a 0 _ aa;have f:=a 1 _ aa;have g:=a 2 _ aa;have i:=a 3 _ aa;have j:=a 4 _ aa;simp only[x8]at b f g i j;obtain⟨w,dS,_,_⟩:=Dg j2 b;obtain⟨x,bB,_,_⟩:=Dg j2 f;obtain⟨g1,b7⟩:=adl g;obtain⟨g2,k⟩:=adl i;obtain⟨A,c,ms,q,u,t⟩:=asp j;refine⟨w,x,g1,g2,A,c,ms,?_,u,t⟩;have e:l=(l.drop 0).take 1++((l.drop 1).take 1++((l.drop 2).take 32++((l.drop 34).take 32++(l.drop 66).take 1))):=by grind[List.take_of_length_le,List.drop_drop,List.take_append_drop]
 unfold dC a1;congr 1;congr 1;rw[e];exact congr (congrArg WL dS) (congr (congrArg WL bB) (congr (congrArg WL b7) (congr (congrArg _ k) q)))
end
end
def arM:(((begin ax (λ_ _=>0) default).world.heap[0]?).bind Obj.row?)=ab (#[J R 0],3):=aw
def arL{W:World}(h:W.ShapedOpen ax):∃m,W.cell? ⟨0,0,none⟩=ab (J R m):=by
 obtain⟨cs,h1,c,d⟩:=h.1 0 #[J R 0] 3 (Nat.le_of_ble_eq_true aw) arM;obtain⟨k,a,hz,e⟩:=d aw;rw[show ax.cellTypes ax.depth 3=ab [3] by rfl]at a;injection a with a;subst a;obtain⟨l⟩:=cs;match l,c with
 |[v],_=>
  obtain⟨u,j,b⟩:=e 0 v aa;have g:3=u:=aF;subst g;clear hz;unfold Cell.ok at b;rw[j2]at b;cases v<;>simp at b;rename_i i hk;obtain⟨rfl,_⟩:=b;have f:W.cell? ⟨0,0,none⟩=ab (J R i):=by grind[World.cell?]
  exact⟨_,f⟩
abbrev No:=Wt
def aqH:laidOutB ax=true:=aw
def aqI:mapsRowed ax=true:=aw
def aqG:(No.inPlace==ax.inPlace 6)=true:=aw
def aqL:(No.unfollowed==ax.unfollowed 6)=true:=aw
def aqK:(No.recurses==ax.recurses 6)=true:=aw
def aqJ:(No.named==ax.varsNamed 6)=true:=aw
def aqF:joinedFacts ax 6 Tryz.f6 Wu Wt=true:=by unfold joinedFacts;rw[aqH,aqI,aqG,aqL,aqK,aqJ];kernel_rfl
open Go.ChangeShapes Go.WideShapes Go.ChangeAt Go.RowKit Go.Deep
def avy os(R:os.Started)z(enc:TypeId×Value->z):
 ReturnsInHanded {} Tryz.checked os 6 .any (Wu.pre6 enc ax Tryz.f6 Wt.domain au) (Wu.post enc ax Tryz.f6 au true au au):=by
 refine returnsInHanded_of_change_shaped (C:=_) Tryz.own R aw Tryz.func6
  (axB (enc:=_) (C:=_) _ ⟨#[],#[ad none 0 0,dC 0 0 dX.zero dX.zero (ad none 0 0)],[]⟩ 8 aw aw aw aw) ?_;intro W base args ds Z before y s _ _ O _;have hval:∀(j) t v,Tryz.f6.params[j]?=ab t->args[j]?=ab v->Pe ax W _ _ t v:=y;have b:=s;obtain⟨p,q,r,H,rfl,_,_⟩:=s;have l:DataW.TrodAll _ ax W 0 (λ_=>true) _ _ _ ds p:=r;rw[Tryz.params6]at l hval;obtain⟨S,T,V,X,f,g,rfl,rfl,rfl,k,h1⟩:=trodAll_two l;obtain⟨rfl,rfl⟩:=trodVars_none H;have hv0:=hval 0 22 S aa aa;have P:=hval 1 26 T aa aa;obtain⟨a0,n0,c1,rfl⟩:=okWide_slice dI hv0;have D:=k;obtain⟨Y,u⟩:=k;obtain⟨i,bZ,old,dS,hold,hby,hc0,_⟩:=adk u;have B:(ad a0 n0 c1)=ad i old.length bZ:=by grind[Pd]
 obtain⟨rfl,rfl,rfl⟩:a0=i/\n0=old.length/\c1=bZ:=aF;have L:=aro hv0;obtain⟨o,n,g1,g2,A,c,ms,rfl,K,w⟩:=asq P h1;clear r y dS B u;simp only[List.append_nil]at b;have M:∀x∈f,x.block<W.heap.size:=λx hx=>by simpa using b.lt x aF
 have N:∀x∈g,x.block<W.heap.size:=λx hx=>by simpa using b.lt x aF
 obtain⟨Q,a⟩:=arL O
 have I:=
  avG Q a0 A c1 c o n g1 g2 _ ms W a hold L hc0 K (λm a=>(w m a).1) hby (λuv h1 E _ _ F G=>avx hby (λm a=>(w m a).2) h1 E F G);refine I.mono λe U ⟨hq,d⟩=>?_;subst hq;refine⟨_,aa,_,_,_,[],f++g,[],b,trodAll_mk1 (shut_bool true),?_,aa,d.below.frame _,λh=>aF⟩;exact trodAll_mk2 (p:=f) (p':=g) (ail Tryz.laidOut aw (of_decide_eq_true aw) D d.below M) (ail Tryz.laidOut aw (of_decide_eq_true aw) h1 d.below N)
def tconverts_holds:Rows.TopConvertsSaid:=
 OpenClaim.holds_of_wide 6 Tryz.f6 aa aa aa aa aa aa aa ⟨aa,aa,aa,aa,aa⟩ aa aa aa aa aa (by as_aux_lemma=>kernel_rfl) Tryz.func6 aqF
  (of_decide_eq_true aw) (by unfold Func.isWrapper;first|(rw[if_pos (by decide+kernel)];kernel_rfl)|(rw[if_neg (by decide+kernel)];exact⟨aa,aa⟩))
  (λos b a enc _=>avy os b a enc)
#print axioms tconverts_holds
end Go.Proofs.YtcmhplknoglbkaaGreat
