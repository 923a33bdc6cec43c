/- Part 42 of the proof of TopConvertsSaid. -/
import Derived.Test.YtcmhplknoglbkaaGreat0
import Derived.Test.YtcmhplknoglbkaaGreat6
import Derived.Test.YtcmhplknoglbkaaGreat31
import Derived.Test.YtcmhplknoglbkaaGreat34
import Derived.Test.YtcmhplknoglbkaaGreat41
set_option linter.all false
set_option maxRecDepth 100000
set_option maxHeartbeats 4000000
open Go.Proofs.Tryz
open Array renaming size->jD
open Bool renaming false->au,true->aB
open Go renaming Calls->aD,bodyPost_ret->dp,results->n1,undef->aZ,wpList_nil->ak,wp_region_lit->ar
open Go.Ending renaming returned->aA
open Go.IntKind renaming i64->R,u64->aH
open Go.Proofs.Tryz renaming func12->af6,ntmps12->agU,prog->ax
open Go.Value renaming agg->av,bool->aj,int->J,pointer->ay,slice->ad,tuple->bh
open Int renaming eq_ofNat_of_zero_le->tA
open List renaming length_append->dw,length_cons->jT
open Nat renaming le_refl->cp,le_trans->eD,zero_add->kV,zero_le->cQ
open Option renaming none->af,some->ab
namespace Go.Proofs.YtcmhplknoglbkaaGreat
open Go.RowKit Go.MapKept
def atE(B p q k c)(bd o n)(g h)A w:(Instr.build 135 #[(0,av #[ay (ab ⟨B,0,af⟩),J R bd,J R 0]),(1,dD o n g h (ad A k c)),(2,ay (ab ⟨p,0,af⟩)),(3,ay (ab ⟨q,0,af⟩))]).run ax w=.ok (av (gY (ay (ab ⟨B,0,af⟩)) bd 0 o n g h (ad A k c) (ay (ab ⟨p,0,af⟩)) (ay (ab ⟨q,0,af⟩)) 0 0 au)) w:=by obtain⟨a,bD⟩:=g;obtain⟨b,b9⟩:=h;obtain⟨d,dc,bo,lg,oH,L,M,N,O,P,e,f,i,j,l,m,r,s,t,u,v,x,y,z,C,D,E,F,G,H,I,K,rfl⟩:=L3 a bD;obtain⟨Q,S,br,c7,ix,oI,NH,NI,CM,NJ,T,U,V,W,X,Y,Z,avQ,avR,avS,avT,avU,avV,avW,avX,avY,avZ,av0,av1,av2,av3,av4,rfl⟩:=L3 b b9;kernel_rfl
def akj{l}{a:Act}{w b d f j B p q k c bd o n g h A}(m:l.op=.build 135 #[(0,b),(1,d),(2,f),(3,j)])(r:a.eval b=av #[ay (ab ⟨B,0,af⟩),J R bd,J R 0])(h1:a.eval d=dD o n g h (ad A k c))(s:a.eval f=ay (ab ⟨p,0,af⟩))(t:a.eval j=ay (ab ⟨q,0,af⟩)):
 (execOp a.eval l).run ax w=.ok (.value (av (gY (ay (ab ⟨B,0,af⟩)) bd 0 o n g h (ad A k c) (ay (ab ⟨p,0,af⟩)) (ay (ab ⟨q,0,af⟩)) 0 0 au))) w:=by
 have hr:=atE B p q k c bd o n g h A w;unfold execOp;simp only[m,Sem.run_bind];have e:(#[(0,b),(1,d),(2,f),(3,j)].map λ(i,x)=>(i,a.eval x))=(#[(0,av #[ay (ab ⟨B,0,af⟩),J R bd,J R 0]),(1,dD o n g h (ad A k c)),(2,ay (ab ⟨p,0,af⟩)),(3,ay (ab ⟨q,0,af⟩))]:Array _):=aG;rw[e,hr];rfl
def rZ(d:dM)(bd o n:Nat)(g1 g2:dY)(ms:List bI):oN:=r0 d (fh d.size 0 (max o n)).2 bd (mJ (jI o n g1 g2 ms))
def Gy(d:dM)(bd o n:Nat)(g1 g2:dY)(ms:List bI):(Int×Int)⊕pe:=
 if qQ ms<ms.length then .inl (16,(qQ ms:Int))
 else if(rZ d bd o n g1 g2 ms).has=au then .inr ⟨0,0,au,rZ d bd o n g1 g2 ms,d⟩
 else if EN bd ms (rZ d bd o n g1 g2 ms).last=aB then .inr ⟨if(rZ d bd o n g1 g2 ms).last.cur=((ey bd ms).length:Int)then 2 else 1,(rZ d bd o n g1 g2 ms).last.cur.toNat,aB,rZ d bd o n g1 g2 ms,d⟩
 else .inl (19,(rZ d bd o n g1 g2 ms).last.cur)
def DB(an:World)(FX:Nat->Prop)(B:Nat)(m:nu)(F:bu)(d:dM)(bd o n:Nat)(g1 g2:dY)(ms:List bI)(out:(Int×Int)⊕pe)(e:Ending)(w':World):Prop:=match out with
 |.inl f=>e=aA (bh #[ay af,av #[J R f.1,J R f.2]])/\ai an FX w' [aO B m d,F]
 |.inr s=>∃(dg dx p b c2:Nat) (g c:bu) (a aK:Option Addr),ss g p bd ms/\hE c a b ms/\e=aA (bh #[ay (ab ⟨dg,0,af⟩),av #[J R 0,J R 0]])/\ai an FX w' [fy ⟨B,dg,dx,bd,o,n,p,b,(fh d.size 0 (max o n)).2,(mJ (jI o n g1 g2 ms)).toNat,g1,g2,a,ms⟩ g c 0 s aK c2 m,F]
def TW r s:0<=(k' r s).1:=by
 unfold k';split;·exact(S7 _).1
 .omega
def SP r:0<=(p1 r).1/\(p1 r).1<=4611686018427387903:=by
 unfold p1;split;·omega
 .exact⟨TW _ _,ae⟩
def Yu{bs r}(h:tP bs=ab r):0<=r.cur/\r.cur<=4611686018427387903/\0<=r.off:=by
 unfold tP at h;simp only at h;split at h;·grind
 .split at h;·grind
  .obtain⟨a,b,rfl⟩:=Option.map_eq_some_iff.1 h;unfold Hl;exact⟨(SP _).1,(SP _).2,(SP _).1⟩
theorem ake:∀{l},l≠[]->Qo l∈l
 |[],h=>absurd aa h
 |x::l,_=>by
  show l.foldl (λb y=>if y.seq>b.seq then y else b) x∈x::l
  have key:∀(l) (b:Rec),l.foldl (λb y=>if y.seq>b.seq then y else b) b∈b::l:=by
   intro l;induction l with
   |nil=>simp
   |cons y l a=>grind
  exact key l x
theorem Td{d first bound id}(h:(r0 d first bound id).has=aB):(r0 d first bound id).last∈uy d first bound:=by grind[Tb,Tc,yH,ake]
def adz{d first bound r}(h:r∈uy d first bound):∃bs,tP bs=ab r:=by
 unfold uy wF at h;simp at h;rcases h with h|h;·exact⟨_,h⟩
 .exact⟨_,h⟩
def arz{d first bound}(a:kk d first bound)id:(r0 d first bound id).last.data.length<=140737488355328:=by
 cases h:(r0 d first bound id).has with
 |false=>
  rw[Tb]at h;rw[Tc];unfold yH at h⊢;simp only[decide_eq_false_iff_not]at h⊢;rw[List.eq_nil_of_length_eq_zero (l:=List.filter _ _) ae];exact cQ _
 |true=>grind[adA,Td]
def amw(o n)(g1 g2)ms K(h:∀m∈ms,m.data.length<=K):(jI o n g1 g2 ms).length<=89+ms.length*(25+K):=by
 have h1:∀l:List _,(∀m∈l,m.data.length<=K)->(l.flatMap rF).length<=l.length*(25+K):=by
  intro l;induction l with
  |nil=>simp
  |cons x l c=>
   intro h;rw[List.flatMap_cons,dw,jT,Nat.succ_mul];grind[rF,iT,rD]
 have a:=h1 ms h
 have b:(qD o n g1 g2 ms.length).length=89:=by unfold qD wP oz;simp only[dw,g1.len,g2.len];simp[iT,rD,EL]
 unfold jI;rw[dw];omega
def Iu {P w b p u ty} {t B:Nat} {cs tmps v} (h:b.results=#[.tmp u,.cell p ty]) (c:tmps.getD p aZ=ay (ab ⟨B,0,af⟩)) (hv:tmps.getD u aZ=v) (hb:aX w B cs t)
 (hu:(P.underlying ty).map (λd=>d.isRow)=ab aB) (hi:(P.info? ty).map (·.size)=ab cs.size):(n1 b tmps).run P w=.ok (bh #[v,av cs]) w:=by
 have j:tmps[p]?.getD aZ=ay (ab ⟨B,0,af⟩):=by simpa using c
 cases hq:P.underlying ty with
 |none=>grind
 |some d=>
  have g:d.isRow=true:=aG;have i:=run_loadVar_row (P:=P) w B t ty cs (0,0) d hb hq aG hi
  have hr:(n1 b tmps).run P w=((asAddr (tmps.getD p aZ)).run P w).andThen λa e=>((loadVar ty a).run P e).andThen λx f=>.ok (bh #[tmps.getD u aZ,x]) f:=by simp only[n1,h];simp
  grind[asAddr,Sem.run_pure,Result.andThen_ok]
def aq5:∀l,0<=Ch l/\Ch l<18446744073709551616
 |[]=>by decide
 |[_]=>wrap_u64 _
 |_::_::_=>wrap_u64 _
def ajH B m d(bd o n c)(g1 g2)A ms(an w)FX F(Z:dS d)(cZ:d.down=au)(hb:1<=bd/\bd<=65536)(y:o<=1048576/\n<=1048576)(hv:nC o n ms)(R0:k6 d.size bd (max o n)<=d.cnt)(eV:(ey bd ms).length<=1048576)(hl:∀W,aq FX an W->cD W A ms)(a:ai an FX w [aO B m d,F]):
 aD ax 12 #[di B,J R (bd:Int),dD (o:Int) (n:Int) g1 g2 (ad A ms.length c)] w λe w'=>DB an FX B m F d bd o n g1 g2 ms (Gy d bd o n g1 g2 ms) e w':=by
 have hj:kk d (fh d.size 0 (max o n)).2 bd:=⟨Z,hb.1,hb.2,by unfold k6 at R0;exact R0⟩
 have RB:∀m∈ms,m.data.length<=1048576:=λm E=>by
  have h1:=hv.fits m E;by_cases hk:m.k=1;·rw[(h1.1.copy hk).2.2.2];exact cQ _
  .have h2:=h1.2.2;have h3:0<=m.to:=(wE.b' h1.1).1.1;unfold cS at h2;rw[if_neg hk]at h2;omega
 have jq:∀m∈ms,hY m/\m.data.length<=140737488355328:=λm E=>⟨(hv.fits m E).1,eD (RB m E) bj⟩;have ym:(jI o n g1 g2 ms).length<=8796093022208:=eD (amw o n g1 g2 ms 1048576 RB) (by have:=hv.en;omega)
 have hes:kF (ms.map b')<=4611686018427387903:=by
  have h1:∀l:List bI,(∀m∈l,cS m<=1048576)->kF (l.map b')<=(l.length:Int)*1048576:=by
   intro l;induction l with
   |nil=>intro _;exact Int.le_refl _
   |cons x l bY=>
    intro h;have h3:=bY (λm E=>h m (List.mem_cons_of_mem _ E));have h4:=h x (List.mem_cons_self ..);show cS x+kF (l.map b')<=_;rw[jT];omega
  have h2:=h1 ms (λm E=>by have h3:=(hv.fits m E).2.2;have h4:0<=m.to:=(wE.b' (hv.fits m E).1).1.1;omega);have h3:=hv.en;omega
 have lq:=hid (λW g=>QV o n g1 g2 A c ms W (hl W g) hv);have Gh:=hid (λW g=>ad3 A c ms W (hl W g) (λm E=>(hv.fits m E).1) (eD hv.en bj));have qo:=hid (λW (h:Has W (aO B m d))=>wK B m d W h.dev Z);have rr:=hid (λW=>acb d.size bd o n g1 g2 (ad A ms.length c) ⟨Z.mj,Z.Bs.2⟩ hb y.1 y.2 W);have JU:=hid (λW (h:Has W (aO B m d))=>ab1 d.size bd (max o n) B m d W h Z aa R0);have F1:=hid (λW g=>am0 o n g1 g2 A c ms W ⟨hv.fb,hv.qL⟩ (hl W g) (λm E=>(hv.fits m E).1) (eD hv.en bj) ym);have JR:=hid (λp fK dC W hp hb bx=>am1 p 1 fK dC (jI o n g1 g2 ms) W ym hp hb bx);have V:=hid (λW (h:Has W (aO B m d))=>ap2 B m d (fh d.size 0 (max o n)).2 bd (mJ (jI o n g1 g2 ms)) W h hj cZ);have A7:=hid (λW g=>IQ (o:Int) (n:Int) g1 g2 (ad A ms.length c) A c ms W aa (hl W g) (eD hv.en bj) (λm E=>(jq m E).2));have WO:=hid (λW g=>asr (bd:Int) A c ms W (hl W g) (eD hv.en bj) eV ae jq hes);have d':=hv.en;have Pn:Hid (0<=mJ (jI o n g1 g2 ms)):=hid (TW _ _);have BR:(rZ d bd o n g1 g2 ms).last.data.length<=140737488355328:=arz hj _;have qC:(rZ d bd o n g1 g2 ms).has=aB->∀r,(rZ d bd o n g1 g2 ms).last=r->0<=r.cur:=λh r hr=>by obtain⟨bs,gP⟩:=adz (Td (d:=d) (first:=(fh d.size 0 (max o n)).2) (bound:=bd) (id:=mJ (jI o n g1 g2 ms)) h);rw[<-hr];exact(Yu gP).1
 unfold Gy;rw[show r0 d (fh d.size 0 (max o n)).2 bd (mJ (jI o n g1 g2 ms))=rZ d bd o n g1 g2 ms from aa]at V;obtain⟨j,aaq⟩:=ex (rZ d bd o n g1 g2 ms);rw[aaq]at V BR qC⊢;have iB:Hid (∀bn p W,ss bn p (bd:Int) ms->bn.p W->aD ax 60 #[ay (ab ⟨p,0,af⟩)] W λe w'=>e=aA (J R ((ey bd ms).length:Int))/\ao W w'):=hid (λbn p W bK h=>E4 p bd ms W (bK W h));have qH:ms.length<=1048575:=eD d' bj;obtain⟨X,hen⟩:=ex (jI o n g1 g2 ms);rw[hen]at F1 JR V Pn;obtain⟨N,Eg⟩:=tA Pn;rw[Eg]at V JR;obtain⟨D,pR⟩:=ex ((fh d.size 0 (max o n)).2);rw[pR]at V;have xL:=hid pR;have Pm:Hid ((mJ (jI o n g1 g2 ms)).toNat=N):=hid (by rw[hen,Eg];rfl);have J0:Hid (Ap ms=if qQ ms<ms.length then(16,(qQ ms:Int))else(0,0)):=hid aa;obtain⟨EK,HD⟩:=ex (k6 d.size bd (max o n));unfold rU at rr JU;rw[pR,HD]at rr JU;obtain⟨Y,yw⟩:=ex (qQ ms);obtain⟨cO,aaC⟩:=ex ((ey bd ms).length);rw[yw]at J0⊢;rw[aaC]at iB⊢;obtain⟨azn,Ev⟩:=ex (Ap ms);rw[Ev]at J0 Gh;clear Z cZ hv RB jq ym hes aaq hl hj hen Eg pR HD Ev yw aaC d' eV Pn;by_cases Et:Y<ms.length;·have O:=J0.out;rw[if_pos Et]at O;subst O;rw[if_pos Et];simp only at Gh;clear Et rr JU F1 JR V A7 WO iB qo;go_enter af6,agU;go_upto_region 0 with fail;refine ar ?_;refine bO a (av (a6 (o:Int) (n:Int) g1 g2 (ad A ms.length c))) (λeL w1 a=>?_);refine ag ?_;refine bA a #[J R 0,J R 0] (λfM aS a=>?_);refine b6 ?_;refine aJ (aj au) (by(go_simp;try rfl)) ?_;refine aF ?_;refine bt a 1 (a6 (o:Int) (n:Int) g1 g2 (ad A ms.length c)) ?_ (hv:=(ef _)) (hk:=by show 0+_<=jD _;rw[kV];exact cp _) (hz:=(by rw[cN];rfl));refine bC (lq _ a.only) a (λbN a=>?_);refine bA a #[J R 0,J R 0] (λeX cc a=>?_);refine ba a 0 (av #[J R 0,J R 0]) (λcG a=>?_);refine aF ?_;refine bt a 0 #[J R 0,J R 0] ?_;refine ag ?_;refine pk (aj au) ?_;refine b6 ?_;refine pl a 2 66 ?_ (hv:=eT);refine bC (Gh _ a.only) a (λc6 a=>?_);refine bA a #[J R 0,J R 0] (λjO dX a=>?_);refine ba a 0 (av #[J R 16,J R (Y:Int)]) (λdH a=>?_);refine aF ?_;refine bt a 0 #[J R 16,J R (Y:Int)] ?_;refine ag ?_;refine pk (aj aB) ?_;refine dh ?_;refine bP a [2] (λ_ _=>aZ) (λ_=>λ|2=>ah fM #[J R 16,J R (Y:Int)] 49|_=>emp) (λ|2=>[2]|_=>[]) (λ|0=>[0]|_=>[]) (λ_=>[]) [0,1,3,4,5,8] (λf=>?_);refine eb 0 #[J R 16,J R (Y:Int)] ?_;refine aL ?_;refine fZ (av #[J R 16,J R (Y:Int)]) ?_;refine bS λe9 a=>?_;go_wp2_with fail;refine dp (v:=bh #[ay af,av #[J R 16,J R (Y:Int)]]) (Iu aa aa aa (a.a1 5) aw aw) aa ?_;unfold DB;exact⟨by first|rfl|trivial,a.pick [3,4]⟩
 .have O:=J0.out;rw[if_neg Et]at O;subst O;rw[if_neg Et];simp only at Gh;clear Et;skip;obtain⟨out,hout⟩:=ex ((if j.has=au then .inr ⟨0,0,au,j,d⟩else if EN bd ms j.last=aB then .inr ⟨if j.last.cur=(cO:Int)then 2 else 1,j.last.cur.toNat,aB,j,d⟩else .inl (19,j.last.cur):(Int×Int)⊕pe));rw[hout];have Dg:=hid hout;have wm:=hid qC;have Po:=hid BR;clear hout qC BR;go_enter af6,agU;go_upto_region 0 with fail;refine ar ?_;refine bO a (av (a6 (o:Int) (n:Int) g1 g2 (ad A ms.length c))) (λeL hT a=>?_);refine ag ?_;refine bA a #[J R 0,J R 0] (λfM i' a=>?_);refine b6 ?_;refine aJ (aj au) (by(go_simp;try rfl)) ?_;refine aF ?_;refine bt a 1 (a6 (o:Int) (n:Int) g1 g2 (ad A ms.length c)) ?_ (hv:=(ef _)) (hk:=by show 0+_<=jD _;rw[kV];exact cp _) (hz:=(by rw[cN];rfl));refine bC (lq _ a.only) a (λks a=>?_);refine bA a #[J R 0,J R 0] (λeX lf a=>?_);refine ba a 0 (av #[J R 0,J R 0]) (λmm a=>?_);refine aF ?_;refine bt a 0 #[J R 0,J R 0] ?_;refine ag ?_;refine pk (aj au) ?_;refine b6 ?_;refine pl a 2 66 ?_ (hv:=eT);refine bC (Gh _ a.only) a (λnU a=>?_);refine bA a #[J R 0,J R 0] (λjO pa a=>?_);refine ba a 0 (av #[J R 0,J R 0]) (λta a=>?_);refine aF ?_;refine bt a 0 #[J R 0,J R 0] ?_;refine ag ?_;refine pk (aj au) ?_;refine dh ?_;refine bP a [1,4,8,9] (λi u=>match i with|1=>J R (d.size:Int)|4=>bh #[av #[J R (d.size:Int),J R (bd:Int),J R 0,J R ((max o n:Nat):Int),J R (D:Int),J R ((2*jZ d.size bd:Nat):Int),J R (EK:Int)],J R 0]|8=>ay (ab ⟨u.b,0,af⟩)|_=>aZ) (λf=>λ|8=>ah ((f 8).b) #[J R 0,J R 0,J R 0,J R 0,J R 0,J R 0,J R 0] 93|9=>ah ((f 8).b) #[J R (d.size:Int),J R (bd:Int),J R 0,J R ((max o n:Nat):Int),J R (D:Int),J R ((2*jZ d.size bd:Nat):Int),J R (EK:Int)] 93|_=>emp) (λ|9=>[14]|_=>[]) (λ|1=>[4]|3=>[3]|_=>[]) (λ|8=>[8]|9=>[8]|_=>[]) [0,1,2,3,4,5,7,10,15] (λf=>?_);refine aL ?_;refine dE (λG _ a=>qo G (a.has 0)) ?_;refine aL ?_;refine eb 0 (a6 (o:Int) (n:Int) g1 g2 (ad A ms.length c)) ?_ (hv:=(ef _)) (hk:=by show 0+_<=jD _;rw[kV];exact cp _) (hz:=(by rw[cN];rfl));refine dE (λG _ _=>rr G) ?_;iterate 3 refine aL ?_
  refine qy #[J R 0,J R 0,J R 0,J R 0,J R 0,J R 0,J R 0] ?_;refine fZ (av #[J R (d.size:Int),J R (bd:Int),J R 0,J R ((max o n:Nat):Int),J R (D:Int),J R ((2*jZ d.size bd:Nat):Int),J R (EK:Int)]) ?_;refine aL ?_;refine bS λtb a=>?_;generalize (f 8).b=q5 at a⊢;replace a:=a.drop 6;replace a:=a.drop 6;refine b6 ?_;refine pk (aj aB) ?_;refine aF ?_;refine bt a 6 #[J R (d.size:Int),J R (bd:Int),J R 0,J R ((max o n:Nat):Int),J R (D:Int),J R ((2*jZ d.size bd:Nat):Int),J R (EK:Int)] ?_;refine ag ?_;refine bC (JU _ (a.has 4)) a (λxo a=>?_);refine cK ?_;refine pk (aj au) ?_;refine aF ?_;refine bt a 3 (a6 (o:Int) (n:Int) g1 g2 (ad A ms.length c)) ?_ (hv:=(ef _)) (hk:=by show 0+_<=jD _;rw[kV];exact cp _) (hz:=(by rw[cN];rfl));refine a7 (F1 _ a.only) ?_;rintro e AB ⟨S,T,rfl,Q⟩;replace a:=a.new _ Q;refine bb ?_;refine v5 ?_;refine dh ?_;refine bP a [6,7,8] (λi u=>match i with|6=>ad (ab ⟨u.b,0,af⟩) 1 1|7=>J aH (N:Int)|8=>bh #[ay (ab ⟨u.b,0,af⟩),J R 0]|_=>aZ) (λf=>λ|6=>ah ((f 6).b) #[ad S X.length T] 22|8=>p0 (f 8).b B D bd (N:Int) j (f 8).A (f 8).c|_=>emp) (λ_=>[]) (λ|3=>[7]|7=>[14,0]|8=>[5]|_=>[]) (λ|6=>[6]|8=>[8]|_=>[]) [0,1,2,3,4,5,6,7,14,15,16] (λf=>?_);iterate 3 refine aL ?_
  refine dl 0 4 ?_;iterate 2 refine aL ?_
  refine lM #[ad S X.length T] 22 ?_;refine dE (λG _ a=>JR.out _ S T G ((a.a1 0).cell 0 aa) (a.lr 1).1 (λb off e=>(a.has (t:=cf S T X) 1).2 b ⟨off,af,e⟩)) ?_;refine df (λG Fr a=>(V G (a.has 0)).mono ?_) ?_;·rintro e dn ⟨dx,rfl,aQ,aR,Q⟩;exact⟨{b:=dx,A:=aQ,c:=aR},aa,a.new _ Q⟩
  iterate 5 refine aL ?_
  refine bS λCI a=>?_;generalize (f 6).b=UA at a⊢;generalize (f 8).b=s at a⊢;generalize (f 8).A=L at a⊢;generalize (f 8).c=M at a⊢;replace a:=a.drop 9;refine b6 ?_;refine pk (aj au) ?_;refine ak ?_;skip;refine dh ?_;refine bP a [6,10,13] (λi u=>match i with|6=>av (a6 (o:Int) (n:Int) g1 g2 (ad u.A ms.length u.c))|10=>ay (ab ⟨u.b,0,af⟩)|13=>ay (ab ⟨u.b,0,af⟩)|_=>aZ) (λf=>λ|6=>kN (hE (f 6).t (f 6).A (f 6).c ms) (f 6).t|10=>kN (ss (f 10).t (f 10).b (bd:Int) ms) (f 10).t|13=>ah ((f 13).b) (gY (di B) (bd:Int) 0 (o:Int) (n:Int) g1 g2 (ad (f 6).A ms.length (f 6).c) (ay (ab ⟨(f 10).b,0,af⟩)) (ay (ab ⟨s,0,af⟩)) 0 0 au) 135|_=>emp) (λ_=>[]) (λ|3=>[4]|5=>[4]|9=>[4]|_=>[]) (λ|6=>[6]|10=>[10]|13=>[6,10,13]|_=>[]) [0,1,2,3,4,5,6,7,8,9,16,20,23] (λf=>?_);iterate 3 refine aL ?_
  refine eb 0 (a6 (o:Int) (n:Int) g1 g2 (ad A ms.length c)) ?_ (hv:=(ef _)) (hk:=by show 0+_<=jD _;rw[kV];exact cp _) (hz:=(by rw[cN];rfl));refine aL ?_;refine dl 0 66 ?_ (hv:=eT);refine df (λG Fr a=>(A7 G a.only).mono ?_) ?_;·rintro e dn ⟨az,aC,t,rfl,Q,j4⟩;exact⟨{A:=az,c:=aC,t:=t},aa,(a.new _ Q).kN j4⟩
  iterate 2 refine aL ?_
  refine dl 0 66 ?_ (hv:=eT);refine df (λG Fr a=>(WO G a.only).mono ?_) ?_;·rintro e dn ⟨p,t,rfl,Q,P⟩;exact⟨{b:=p,t:=t},aa,(a.new _ Q).kN P⟩
  refine aL ?_;refine aM (av (gY (di B) (bd:Int) 0 (o:Int) (n:Int) g1 g2 (ad (f 6).A ms.length (f 6).c) (ay (ab ⟨(f 10).b,0,af⟩)) (ay (ab ⟨s,0,af⟩)) 0 0 au)) (λ_ _ _=>akj aa aa aa aa aa) ?_;refine alI (av (gY (di B) (bd:Int) 0 (o:Int) (n:Int) g1 g2 (ad (f 6).A ms.length (f 6).c) (ay (ab ⟨(f 10).b,0,af⟩)) (ay (ab ⟨s,0,af⟩)) 0 0 au)) ?_;refine aL ?_;refine bS λCJ a=>?_;generalize (f 6).A=H at a⊢;generalize (f 6).c=I at a⊢;generalize (f 6).t=U at a⊢;generalize (f 10).b=z at a⊢;generalize (f 10).t=K at a⊢;generalize (f 13).b=C at a⊢;replace a:=a.front 10;obtain⟨j4,a⟩:=a.IL;replace a:ai _ _ _ [U,cf S T X,ah jO #[J R 0,J R 0] 49,ah eX #[J R 0,J R 0] 49,ah fM #[J R 0,J R 0] 49,ah eL (a6 (o:Int) (n:Int) g1 g2 (ad A ms.length c)) 26,aO B m d,F,ah q5 #[J R (d.size:Int),J R (bd:Int),J R 0,J R ((max o n:Nat):Int),J R (D:Int),J R ((2*jZ d.size bd:Nat):Int),J R (EK:Int)] 93,ah UA #[ad S X.length T] 22,p0 s B D bd (N:Int) j L M,kN (ss K z (bd:Int) ms) K,ah C (gY (di B) (bd:Int) 0 (o:Int) (n:Int) g1 g2 (ad H ms.length I) (ay (ab ⟨z,0,af⟩)) (ay (ab ⟨s,0,af⟩)) 0 0 au) 135]:=a;replace a:=a.front 11;obtain⟨P,a⟩:=a.IL;replace a:ai _ _ _ [K,U,cf S T X,ah jO #[J R 0,J R 0] 49,ah eX #[J R 0,J R 0] 49,ah fM #[J R 0,J R 0] 49,ah eL (a6 (o:Int) (n:Int) g1 g2 (ad A ms.length c)) 26,aO B m d,F,ah q5 #[J R (d.size:Int),J R (bd:Int),J R 0,J R ((max o n:Nat):Int),J R (D:Int),J R ((2*jZ d.size bd:Nat):Int),J R (EK:Int)] 93,ah UA #[ad S X.length T] 22,p0 s B D bd (N:Int) j L M,ah C (gY (di B) (bd:Int) 0 (o:Int) (n:Int) g1 g2 (ad H ms.length I) (ay (ab ⟨z,0,af⟩)) (ay (ab ⟨s,0,af⟩)) 0 0 au) 135]:=a;cases hh:j.has with
  |false=>
   have y:=Dg.out;rw[if_pos hh]at y;subst y;have De:Hid (∀W,Has W (p0 s B D bd (N:Int) j L M)->aD ax 58 #[ay (ab ⟨s,0,af⟩)] W λe w'=>e=aA (bh #[av #[J aH 0,J aH 0,J R 0,J R 0,ad af 0 0],aj au])/\ao W w'):=hid (λW h=>by have q:=SH s B D bd (N:Int) j L M W h Po;rw[hh]at q;exact q);clear hh;refine b6 ?_;refine bC (De.out _ (a.has 11)) a (λFm a=>?_);refine v3 ?_;refine bA a #[J aH 0,J aH 0,J R 0,J R 0,ad af 0 0] (λCQ IP a=>?_);refine ba a 0 (av #[J aH 0,J aH 0,J R 0,J R 0,ad af 0 0]) (λTZ a=>?_);refine ag ?_;refine aF ?_;refine v2 ?_;refine jt ?_;refine ba a 6 (av #[J R 0,J R 0]) (λT0 a=>?_);refine ak ?_;go_wp2_with fail;refine dp (v:=bh #[ay (ab ⟨C,0,af⟩),av #[J R 0,J R 0]]) (Iu aa aa aa (a.a1 6) aw aw) aa ?_;unfold DB;simp only;rw[xL,Pm];have b0:ai _ _ _ [ah C (gY (di B) (bd:Int) 0 (o:Int) (n:Int) g1 g2 (ad H ms.length I) (ay (ab ⟨z,0,af⟩)) (ay (ab ⟨s,0,af⟩)) 0 0 au) 135,p0 s B D bd (N:Int) j L M,aO B m d,K,U,F]:=a.pick [13,12,8,1,2,9];exact⟨C,s,z,I,M,K,U,H,L,P,j4,by first|rfl|trivial,b0.fC 5⟩
  |true=>
   obtain⟨r,hr⟩:=ex j.last;have kI:=wm hh r hr;obtain⟨q,hq⟩:=tA kI;have gU:=hid hq;have De:Hid (∀W,Has W (p0 s B D bd (N:Int) j L M)->aD ax 58 #[ay (ab ⟨s,0,af⟩)] W λe w'=>∃az aC,e=aA (bh #[av (recC r az aC),aj aB])/\b5 W w' (cf az aC r.data)):=hid (λW h=>by have q:=SH s B D bd (N:Int) j L M W h Po;rw[hh,hr]at q;exact q);have y:=Dg.out;rw[if_neg (by rw[hh];simp),hr,hq]at y;have WN:=hid y;clear y hq kI hh wm Dg Po;refine b6 ?_;refine a7 (De.out _ (a.has 11)) ?_;rintro e T1 ⟨Fv,GI,rfl,Q⟩;replace a:=a.new _ Q;refine bb ?_;refine v3 ?_;refine bA a #[J aH 0,J aH 0,J R 0,J R 0,ad af 0 0] (λCQ T2 a=>?_);refine ba a 0 (av #[J aH r.seq,J aH r.id,J R r.cur,J R r.off,ad Fv r.data.length GI]) (λae7 a=>?_);refine ag ?_;refine aF ?_;refine dQ ?_;obtain⟨w7,uc⟩:=ex (EN bd ms r);have y:=WN.out;rw[uc]at y;have WH:=hid uc;have PA:=hid y;clear y uc WN;cases w7 with
   |false=>
    have y:=PA.out;rw[if_neg aU]at y;subst y;refine b6 ?_;refine bt a 0 #[J aH r.seq,J aH r.id,J R r.cur,J R r.off,ad Fv r.data.length GI] ?_;have bm:=(a.pk [14,2,0,1,3,4,5,6,7,8,9,10,11,12,13]).t2;refine a7 (XA C z (bd:Int) ms K _ (di B) (ad H ms.length I) (ay (ab ⟨s,0,af⟩)) (bd:Int) 0 (o:Int) (n:Int) 0 0 g1 g2 au r Fv GI an _ FX P qH bm) ?_;rintro e avj ⟨O,a⟩;clear bm;rw[WH]at O;subst O;replace a:=a.bo;refine bb ?_;refine ih ?_;refine bP a [4] (λ_ _=>aZ) (λ_=>λ|4=>ah fM #[J R 19,J R (q:Int)] 49|_=>emp) (λ|4=>[8]|_=>[]) (λ|1=>[2]|_=>[]) (λ_=>[]) [0,1,2,3,4,5,6,7,9,10,11,12,13,14,19] (λf=>?_);refine aL ?_;refine aM (J R (q:Int)) (λ_ _ a=>by(rw[<-gU];exact fz aa aa (a.a1 0) aa aw)) ?_;iterate 2 refine aL ?_
    refine fZ (av #[J R 19,J R (q:Int)]) ?_;refine bS λavk a=>?_;go_wp2_with fail;refine dp (v:=bh #[ay af,av #[J R 19,J R (q:Int)]]) (Iu aa aa aa (a.a1 14) aw aw) aa ?_;unfold DB;exact⟨by first|rfl|trivial,a.pick [9,10]⟩
   |true=>
    refine b6 ?_;refine bt a 0 #[J aH r.seq,J aH r.id,J R r.cur,J R r.off,ad Fv r.data.length GI] ?_;have bm:=(a.pk [14,2,0,1,3,4,5,6,7,8,9,10,11,12,13]).t2;refine a7 (XA C z (bd:Int) ms K _ (di B) (ad H ms.length I) (ay (ab ⟨s,0,af⟩)) (bd:Int) 0 (o:Int) (n:Int) 0 0 g1 g2 au r Fv GI an _ FX P qH bm) ?_;rintro e avl ⟨O,a⟩;clear bm;rw[WH]at O;subst O;replace a:=a.bo;refine bb ?_;refine ih ?_;refine bP a [7,10,13] (λ_ _=>aZ) (λ_=>λ|7=>ah C (gY (di B) (bd:Int) 0 (o:Int) (n:Int) g1 g2 (ad H ms.length I) (ay (ab ⟨z,0,af⟩)) (ay (ab ⟨s,0,af⟩)) 1 0 au) 135|10=>ah C (gY (di B) (bd:Int) 0 (o:Int) (n:Int) g1 g2 (ad H ms.length I) (ay (ab ⟨z,0,af⟩)) (ay (ab ⟨s,0,af⟩)) 1 (q:Int) au) 135|13=>ah C (gY (di B) (bd:Int) 0 (o:Int) (n:Int) g1 g2 (ad H ms.length I) (ay (ab ⟨z,0,af⟩)) (ay (ab ⟨s,0,af⟩)) 1 (q:Int) aB) 135|_=>emp) (λ|7=>[0]|10=>[22]|13=>[25]|_=>[]) (λ|4=>[2]|_=>[]) (λ_=>[]) [1,2,3,4,5,6,7,8,9,10,11,12,13,14,28] (λf=>?_);iterate 4 refine aL ?_
    refine aM (J R (q:Int)) (λ_ _ a=>by(rw[<-gU];exact fz aa aa (a.a1 0) aa aw)) ?_;iterate 2 refine aL ?_
    refine fZ (J R 1) ?_ (hk:=by show _+1<=_;rw[oU];decide) (hc:=Ku);iterate 2 refine aL ?_
    refine fZ (J R (q:Int)) ?_ (hk:=by show _+1<=_;rw[oU];decide) (hc:=XE);iterate 2 refine aL ?_
    refine fZ (aj aB) ?_ (hk:=by show _+1<=_;rw[oU];decide) (hc:=XF);refine bS λavm a=>?_;have y:=PA.out;rw[if_pos aa]at y;clear PA;by_cases zY:(q:Int)=(cO:Int)
    .rw[if_pos zY]at y;subst y;have PD:=hid zY;clear zY;refine dh ?_;refine bP a [8] (λi _=>match i with|8=>J R (cO:Int)|_=>aZ) (λ_ _=>emp) (λ_=>[]) (λ|3=>[14]|7=>[14]|8=>[0]|_=>[]) (λ_=>[]) [0,1,2,3,4,5,6,7,8,9,10,11,12,13,14,23] (λf=>?_);iterate 3 refine aL ?_
     refine dl 0 73 ?_ (hv:=fj (j:=4) aa);iterate 3 refine aL ?_
     refine dl 0 70 ?_ (hv:=fj (j:=1) aa);refine dE (λG _ a=>iB K z G P (a.at 0)) ?_;refine aM (aj aB) (λ_ _ _=>by(have h:=PD.out;go_simp;try simp[h])) ?_;refine bS λavn a=>?_;replace a:=a.drop 15;refine jt ?_;refine ba a 14 (J R 2) (λavo a=>?_) (hk:=by show _+1<=_;rw[oU];decide) (hc:=Ku);refine jt ?_;refine ba a 7 (av #[J R 0,J R 0]) (λavp a=>?_);refine ak ?_;go_wp2_with fail;refine dp (v:=bh #[ay (ab ⟨C,0,af⟩),av #[J R 0,J R 0]]) (Iu aa aa aa (a.a1 7) aw aw) aa ?_;unfold DB;simp only;rw[xL,Pm];have b0:ai _ _ _ [ah C (gY (di B) (bd:Int) 0 (o:Int) (n:Int) g1 g2 (ad H ms.length I) (ay (ab ⟨z,0,af⟩)) (ay (ab ⟨s,0,af⟩)) 2 (q:Int) aB) 135,p0 s B D bd (N:Int) j L M,aO B m d,K,U,F]:=a.pick [14,13,9,0,3,10];exact⟨C,s,z,I,M,K,U,H,L,P,j4,by first|rfl|trivial,b0.fC 5⟩
    .rw[if_neg zY]at y;subst y;have PD:=hid zY;clear zY;refine dh ?_;refine bP a [8] (λi _=>match i with|8=>J R (cO:Int)|_=>aZ) (λ_ _=>emp) (λ_=>[]) (λ|3=>[14]|7=>[14]|8=>[0]|_=>[]) (λ_=>[]) [0,1,2,3,4,5,6,7,8,9,10,11,12,13,14,23] (λf=>?_);iterate 3 refine aL ?_
     refine dl 0 73 ?_ (hv:=fj (j:=4) aa);iterate 3 refine aL ?_
     refine dl 0 70 ?_ (hv:=fj (j:=1) aa);refine dE (λG _ a=>iB K z G P (a.at 0)) ?_;refine aM (aj au) (λ_ _ _=>by(have h:=PD.out;go_simp;try simp[h])) ?_;refine bS λavq a=>?_;replace a:=a.drop 15;refine jt ?_;refine ba a 7 (av #[J R 0,J R 0]) (λavr a=>?_);refine ak ?_;go_wp2_with fail;refine dp (v:=bh #[ay (ab ⟨C,0,af⟩),av #[J R 0,J R 0]]) (Iu aa aa aa (a.a1 7) aw aw) aa ?_;unfold DB;simp only;rw[xL,Pm];have b0:ai _ _ _ [ah C (gY (di B) (bd:Int) 0 (o:Int) (n:Int) g1 g2 (ad H ms.length I) (ay (ab ⟨z,0,af⟩)) (ay (ab ⟨s,0,af⟩)) 1 (q:Int) aB) 135,p0 s B D bd (N:Int) j L M,aO B m d,K,U,F]:=a.pick [14,13,9,0,3,10];exact⟨C,s,z,I,M,K,U,H,L,P,j4,by first|rfl|trivial,b0.fC 5⟩
end Go.Proofs.YtcmhplknoglbkaaGreat
