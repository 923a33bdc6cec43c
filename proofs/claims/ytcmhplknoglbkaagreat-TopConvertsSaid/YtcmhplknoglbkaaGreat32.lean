/- Part 32 of the proof of TopConvertsSaid. -/
import Derived.Test.YtcmhplknoglbkaaGreat0
import Derived.Test.YtcmhplknoglbkaaGreat6
import Derived.Test.YtcmhplknoglbkaaGreat29
set_option linter.all false
set_option maxRecDepth 100000
set_option maxHeartbeats 4000000
open Go.Proofs.Tryz
open Go.Ending renaming returned->aA
open Go.Instr renaming lookup->qg
open Go.IntKind renaming i64->R
open Go.Obj renaming cells->bf,map->iP
open Go.Proofs.Tryz renaming prog->ax,underlying118->uK,underlying82->ik
open Go.Proofs renaming intOf->cg
open Go.RowKit renaming Hid->aE
open Go.Value renaming int->J,oneCell'->wh,pointer->ay,slice->ad
open Go renaming maxLen->dO,wpList_append_own_at->JE
open List renaming append_nil->j6,countP_le_length->PY,eq_nil_of_length_eq_zero->jH,filter_append->pz,filter_cons->Dw,filter_nil->P2,getElem?_eq_getElem->cm,getElem?_eq_some_iff->eR,getElem?_of_mem->P5,getElem?_take->su,length_filter_le->xU,length_take->oP,mem_filter->mZ,mem_of_getElem?->cM,take_add_one->fv,take_length->il,take_of_length_le->tC
open Nat renaming le_refl->cp,le_trans->eD,zero_le->cQ
open Option renaming getD_some->pD,none->af,some->ab
open Option.some renaming inj->Ke
open Or renaming inl->bJ
namespace Go.Proofs.YtcmhplknoglbkaaGreat
namespace G
open Go.RowKit Go.MapKept
def Uh w:(zeroValue 3).run ax w=.ok (J R 0) w:=aw
def gV.small{w F b n E}(h:gV w F b n E):0<=n/\n<=1048576:=by obtain⟨⟨fJ,cW,fA,eQ,eO,g⟩,_⟩:=h;exact⟨g.n0,g.qL⟩
def z8{w b a f}(d:dZ w b encI db (k5 a f)){x}(hx:db x):
 (qg 118 (.map (ab b)) (J R x) false).run ax w=.ok (if x∈a then J R (f x)else J R 0) w/\
 (qg 118 (.map (ab b)) (J R x) true).run ax w=.ok (.tuple #[if x∈a then J R (f x)else J R 0,.bool (decide (x∈a))]) w:=by
 have h:=d.lookup o4 uK Uh hx;rw[L1]at h;by_cases c:x∈a;·simp only[c,if_true,decide_true]at h⊢;exact h
 .simp only[c,if_false,decide_false]at h⊢;exact h
def apy b(n v)E F w(a:gV w F b n E)(hv:db v)(d:E.length<=1099511627776):
 Calls ax 304 #[ay (ab ⟨b,0,af⟩),J R v] w λe w'=>∃A c,e=aA (ad A (mK E v).length c)/\cX w' A (mK E v)/\(∀k off,A=ab ⟨k,off,af⟩->w.heap.size<=k)/\ao w w':=by
 refine(apx b n v E F w a hv d).mono ?_;rintro e w' ⟨r,rfl,h,f⟩;obtain⟨A,c,rfl,hi,_,_,g⟩:=h.form;exact⟨A,c,rfl,hi,λk off e=>(g k _ e).1,f⟩
def arN b(n v)E F w(a:gV w F b n E)(hv:db v)(d:E.length<=1099511627776):
 Calls ax 92 #[ay (ab ⟨b,0,af⟩),J R v] w λe w'=>∃A c,e=aA (ad A (lY E v).length c)/\cX w' A (lY E v)/\(∀k off,A=ab ⟨k,off,af⟩->w.heap.size<=k/\k<w'.heap.size)/\ao w w':=by
 refine(arM b n v E F w a hv d).mono ?_;rintro e w' ⟨r,rfl,h,f⟩;obtain⟨A,c,rfl,hi,_,_,g⟩:=h.form;exact⟨A,c,aa,hi,g,f⟩
def TC(b N:Nat)E F A c s w(dU:gV w F b N E)(hs:cX w A s)(e6:s.length<=9223372036854775807)(eV:E.length<=1048576):
 Calls ax 250 #[ay (ab ⟨b,0,af⟩),ad A s.length c] w λe w'=>∃la md f o,e=aA (.tuple #[la,.map (ab md)])/\mx E N s o/\pC w w' la o/\dZ w' md encI db (k5 (kp N s o) f)/\ao w w':=by
 have fl:=dU.small.2;have fP:=@run_makeMap ax;have kn:(w.alloc (iP #[] 0)).cell? ⟨b,0,af⟩=ab (J R N):=(dU.aI (aq.alloc (F:=λ_=>False) w (iP #[] 0))).SY;have X:=hid (And.intro dU hs);have F8:aE (dZ (w.alloc (iP #[] 0)) w.heap.size encI db (k5 [] (λ_=>0))):=hid (dZ.made w encI db);obtain⟨i0,gQ,hz0,hz1,hz2⟩:=info_parts z7;have de:=hid (And.intro gQ (And.intro hz0 (And.intro hz1 hz2)));clear dU hs gQ hz0 hz1 hz2;go_enter func250,ntmps250;go_wp2_with (go_at_call 303;refine(w6 b N _ kn).mono ?_;rintro e w1 ⟨rfl,rfl⟩);clear kn fP;have WM:aE (aq (λi=>w.heap.size<=i) w (w.alloc (iP #[] 0))):=hid (aq.alloc _ _);generalize w.alloc (iP #[] 0)=w1 at*;go_loopw [28] (λi wr=>∃k:Nat,k<=N/\i=J R k/\dZ wr w.heap.size encI db (k5 (((du N).take k).filter (λv=>!decide (v∈s))) (λ_=>0))/\aq (λi=>w.heap.size<=i) w wr) (λi _=>N -(cg i).toNat);case atStart=>exact⟨0,cQ _,aa,by simpa using F8.out,WM.out⟩
 case round=>
  obtain⟨k,hk,rfl,p,I⟩:=hrel;have C:=hid (And.intro p I);clear F8 WM;by_cases hlt:k<N
  .have hb0:(k:Int)<(N:Int):=ae;have qI:=hid (M8 N k hlt);obtain⟨r,hr⟩:∃r:Bool,decide ((k:Int)∈s)=r:=⟨_,aa⟩;have S:=hid hr
   have lS:aE ((k:Int)∉((du N).take k).filter (λv=>!decide (v∈s))):=hid (λh=>by have:=(mZ.1 h).1;obtain⟨j,hj⟩:=P5 this;have BQ:=(eR.1 hj).1;rw[oP]at BQ;rw[su,if_pos ae]at hj;obtain⟨gi,fQ⟩:=eR.1 hj;simp[du]at fQ;omega);have hlen:(((du N).take k).filter (λv=>!decide (v∈s))).length<=k:=eD (xU _ _) (by rw[oP];omega);have V:db (k:Int):=⟨ae,ae⟩;have mW:=hid V;clear hr p I V;generalize cj:((du N).take k).filter (λv=>!decide (v∈s))=L at*;cases r
   .have jE:aE (((du N).take (k+1)).filter (λv=>!decide (v∈s))=L++[(k:Int)]):=hid (by rw[qI.out,pz,cj];have:=S.out;simp only[Dw,P2,this];rfl);clear cj
    go_wp2_with (first
     |(go_at_call 190;refine(DN A c s k wr _ S.out (X.out.2.aI (b5.aI C.out.2)) e6).mono ?_;rintro e aS ⟨rfl,rfl⟩)
     |(at_mapUpdate;refine IS aa _ _ _ aa o4 uK C.out.1 (by rw[Cb];unfold dO;omega) aa mW.out aa (J _ 0) aa ?_;intro aS jo hg2 hs2));rw[aqb (f:=λ_=>0) lS.out]at jo;have W:=hid (And.intro jo (C.out.2.trans (aq.of_grownBy (F:=λi=>w.heap.size<=i) hg2 (λi e=>bJ (by cases e;exact cp _))) (λ_ _ h=>h)));clear jo hg2 hs2;go_wp2;go_roundw;case rel=>exact⟨_,ae,by go_num,jE.out▸W.out.1,W.out.2⟩
    case measure=>simp[cg];omega
   .have jE:aE (((du N).take (k+1)).filter (λv=>!decide (v∈s))=L):=hid (by rw[qI.out,pz,cj];have:=S.out;simp only[Dw,P2,this];simp);clear cj;go_wp2_with (go_at_call 190;refine(DN A c s k wr _ S.out (X.out.2.aI (b5.aI C.out.2)) e6).mono ?_;rintro e aS ⟨rfl,rfl⟩);go_roundw;case rel=>exact⟨_,ae,by go_num,jE.out▸C.out.1,C.out.2⟩
    case measure=>simp[cg];omega
  .obtain rfl:k=N:=ae
   have G8:dZ wr w.heap.size encI db (k5 (hG k s) (λ_=>0)):=by have h:=C.out.1;rwa [tC (by simp[du])]at h
   have H1:=hid C.out.2;clear p I C;go_wp2_with (at_range;refine aff aa _ _ _ aa uK G8 aa ?_;intro aS K hg2 hs2);go_frame;rw[aqa]at K;have W:=hid (And.intro K hg2);have hz2:=hg2.size;have hz1:=H1.out.size;clear K hg2 G8;generalize wr.heap.size=r at*;go_loopw [40] (λ_ wr=>∃(left:List Int) (f:Int->Int),Over wr w.heap.size r encI db (k5 (hG k s) f) left/\(∀x∈hG k s,x∉left->f x=(tQ E (hG k s) x:Int))/\(∀x∈left,x∈hG k s/\f x=0)/\r<wr.heap.size/\aq (λi=>w.heap.size<=i) w wr) (λ_ wr=>wr.rangeLeft w.heap.size r);case atStart=>exact⟨_,λ_=>0,W.out.1,λx h1 h2=>absurd h1 h2,λx h=>⟨h,aa⟩,ae,H1.out.trans W.out.2 (λ_ _ h=>h.elim)⟩
   case round=>
    obtain⟨left,f,K,hdone,aax,ayY,I⟩:=hrel;have C:=hid (And.intro hdone (And.intro aax (And.intro K I)));have D7:=I.size;clear hdone aax I;obtain⟨M,rfl⟩:∃M:World,M=wr:=⟨_,aa⟩;go_wp2_with (at_next;refine afg aa _ aa o4 aa K ?_ ?_)
    .intro h0;subst h0;have cr:aE (∀x∈hG k s,f x=(tQ E (hG k s) x:Int)):=hid (λx hx=>C.out.1 x hx aU);have bX:=hid C.out.2.2.1.ace;have ayM:=bX.out.lt;have dv:=hid C.out.2.2.2;clear K C W;go_wp2_with (go_at_call 303;refine(w6 b k _ (X.out.1.aI (b5.aI dv.out)).SY).mono ?_;rintro e cc ⟨rfl,rfl⟩)
     go_loopw [14,66] (λgE i wr=>∃j:Nat,j<=k/\i=J R j/\wr.ownsRow M.heap.size 3 1 gE (((du k).take j).filter (λx=>decide (x∈hG k s)&&decide (f x=0))).length ((((du k).take j).filter (λx=>decide (x∈hG k s)&&decide (f x=0))).map (J R))/\
      aq (λi=>M.heap.size<=i) M wr) (λ_ i _=>k -(cg i).toNat);case atStart=>exact⟨0,cQ _,aa,⟨aU,bJ ⟨aa,aU⟩⟩,aq.refl _ _⟩
     case round=>
      obtain⟨j,hj,rfl,hrow,Y⟩:=hrel;have h5:=Y.size;by_cases kJ:j<k
      .have qI:=hid (M8 k j kJ);have hb1:(j:Int)<(k:Int):=ae;have B:=(z8 (bX.out.only Y ae) (x:=(j:Int)) ⟨ae,ae⟩).2;have hlen:(((du k).take j).filter (λx=>decide (x∈hG k s)&&decide (f x=0))).length<=j:=eD (xU _ _) (by rw[oP];omega);have S:=hid (And.intro hrow Y);clear hrow Y;generalize cj:((du k).take j).filter (λx=>decide (x∈hG k s)&&decide (f x=0))=L at*
       have jE:aE (((du k).take (j+1)).filter (λx=>decide (x∈hG k s)&&decide (f x=0))=L++if(j:Int)∈hG k s/\f j=0 then[(j:Int)]else[]):=hid (by rw[qI.out,pz,cj];congr 1;simp only[Dw,P2,Bool.and_eq_true,decide_eq_true_eq]);clear cj;by_cases n:(j:Int)∈hG k s
       .rw[if_pos n]at B;have t:decide ((j:Int)∈hG k s)=true:=by simpa using n
        rw[t]at B;have l:=hid n;clear n t;obtain⟨d,t⟩:=ex (f j);rw[t]at B;by_cases pP:d=0
        .subst pP;have Ga:aE (((du k).take (j+1)).filter (λx=>decide (x∈hG k s)&&decide (f x=0))=L++[(j:Int)]):=hid (by rw[jE.out,if_pos ⟨l.out,t⟩]);clear t;go_wp2_with (at_builtin;go_loud (refine JE _ aa (.tmp 80) (.tmp 82) 82 aa M.heap.size 3 i0 _ 1 8 ik de.out.1 de.out.2.1 de.out.2.2.1 de.out.2.2.2 aa ae _ L.length _ aa (nn S.out.1 (aq.alloc (F:=λ_=>False) _ _) (λ_ _ h=>h)) _ 1 1 _ aa aa (ES _ _ _) (by simp[wh]) (by unfold dO;omega) ae (by simp;omega) ?_;intro avI c6 aaV aag _ _));have Ht:aq (λi=>M.heap.size<=i) (wr.alloc (bf #[J R (j:Int)] 3)) c6:=aq.of_grownBy aag (λi e=>bJ (S.out.1.lt i e).1);have qj:=hid (And.intro aaV ((S.out.2.trans (aq.alloc (F:=λi=>M.heap.size<=i) _ _) (λ_ _ h=>h)).trans Ht (λ_ _ h=>h)));clear aaV aag Ht B;go_wp2;go_roundw
         case rel=>
          refine⟨j+1,ae,by go_num,?_,qj.out.2⟩;rw[Ga.out];simpa using qj.out.1
         case measure=>simp[cg];omega
        .have hne:(d==0)=false:=by simpa using pP
         have Ga:aE (((du k).take (j+1)).filter (λx=>decide (x∈hG k s)&&decide (f x=0))=L):=hid (by rw[jE.out,if_neg (λh=>pP (t▸h.2)),j6]);have axd:=hid pP;clear t pP;go_wp2;go_roundw;case rel=>exact⟨_,ae,by go_num,Ga.out▸S.out.1,S.out.2⟩
         case measure=>simp[cg];omega
       .rw[if_neg n]at B;have t:decide ((j:Int)∈hG k s)=false:=by simpa using n
        rw[t]at B;have Ga:aE (((du k).take (j+1)).filter (λx=>decide (x∈hG k s)&&decide (f x=0))=L):=hid (by rw[jE.out,if_neg (λh=>n h.1),j6]);clear n t;go_wp2;go_roundw;case rel=>exact⟨_,ae,by go_num,Ga.out▸S.out.1,S.out.2⟩
        case measure=>simp[cg];omega
      .obtain rfl:j=k:=ae;rw[tC (by simp[du])]at hrow;have Zs:=qp.start (E:=E) f cr.out _ aa;have P:=hid (And.intro Zs (And.intro (bX.out.only Y ae) (And.intro (eY.lW hrow) (dv.out.trans Y (λi _ h=>ae)))));have apj:=dv.out.size;clear hrow Zs Y cr bX;go_wp2_with fail
       go_loopw [13,14] (λej Ao wr=>∃(out D:List Int) (g:Int->Int) (gR:List Int),qp E j s out D g gR/\dZ wr w.heap.size encI db (k5 D g)/\wr.ownsRow M.heap.size 3 1 ej out.length (out.map (J R))/\eY wr M.heap.size Ao gR/\
        (∀q,ej.ownBlock=ab q->Ao.ownBlock≠ab q)/\M.heap.size<=wr.heap.size/\aq (λi=>w.heap.size<=i) w wr) (λ_ _ wr=>Md wr w.heap.size);case atStart=>exact⟨[],_,f,_,P.out.1,P.out.2.1,⟨aU,bJ ⟨aa,aU⟩⟩,P.out.2.2.1,(λq h=>by cases h),h5,P.out.2.2.2⟩
       case round=>
        obtain⟨out,D,g,gR,U,p,hrow,Q,hap,hsz,I⟩:=hrel;have eg:=p.size;rw[Cb]at eg;have hsm:=U.small;cases gR with
        |nil=>
         obtain⟨mS,kE,rfl,_,_⟩:=Q.form;have hJ:=U.final X.out.1.2.2;have S:=hid (And.intro hJ (And.intro p (And.intro hrow I)));clear hJ p hrow I Q hap U P eg;go_wp2;go_ret2;obtain⟨gp,a2,a3,a4⟩:=S.out;rw[gp.2]at a2;exact⟨_,_,g,_,aa,gp.1,Co a3 apj,a2,b5.aI a4⟩
        |cons v gR=>
         obtain⟨mS,kE,rfl,_,_⟩:=Q.form;obtain⟨g',off,rfl,_,ayp,Lh,hcell,ZH,ZG⟩:=Q.tail;unfold dO at Lh;have Lo:=U.pop X.out.1.2.2;have Ex:=(U.mem.1 Lo.M9).1.1;have eU:D.length<=1048576:=ae;have V:db v:=⟨ae,ae⟩;simp at hsm
         have hlt:(D.filter (λy=>!decide (y=v))).length<D.length:=by
          have eh:D.Nodup:=by rw[U.rest];exact(((z' (CG j)).filter _).filter _)
          have hl:=(L2 eh Lo.M9).length_eq;rw[List.length_cons]at hl;omega
         have hb2:=Q.lt (g:=g') aa
         have an3:∃az aC,(az=ab ⟨g',off+1,af⟩\/az=ab ⟨g',off,af⟩)/\eY wr M.heap.size (ad az gR.length aC) gR/\(1<kE->az=ab ⟨g',off+1,af⟩/\aC=kE -1)/\(kE=1->az=ab ⟨g',off,af⟩/\aC=0):=by
          by_cases h1:kE=1;·subst h1;exact⟨_,_,.inr aa,ZG (jH ae),λh=>ae,λ_=>⟨aa,aa⟩⟩
          .exact⟨_,_,bJ rfl,ZH,λ_=>⟨rfl,rfl⟩,λh=>absurd h h1⟩
         obtain⟨az,aC,anH,BF,Rg,sK⟩:=an3;have ZK:=λq a=>(hap q a:ab g'≠ab q);have ac:=hid (And.intro Lo (And.intro BF (And.intro ZK (And.intro I (And.intro V eg)))));have B3:wr.frozen? ⟨g',off,af⟩=wr.frozen? ⟨g',off,af⟩:=rfl;have anU:=p.lt;have tY:(0:Int)<((gR.length:Int)+1):=ae;have nJ:(1:Int)<=(gR.length:Int)+1:=ae;clear U Lo BF ZK I V eg Q hap anH ZH ZG B3;have bX:=hid p;have Dj:=hid hrow;clear p hrow;have hcc:kE=1\/1<kE:=ae;rcases hcc with hc1|hc1;rotate_left;obtain⟨rfl,rfl⟩:=Rg hc1;clear Rg sK;rotate_left;obtain⟨rfl,rfl⟩:=sK hc1;subst hc1;obtain rfl:gR=[]:=jH ae;clear Rg sK
         all_goals
          go_wp2_with (first
           |(at_delete;refine avB aa _ _ _ _ aa o4 uK bX.out aa ac.out.2.2.2.2.1 aa ?_;intro aS jo hg2 hs2;have hk2:aq (λi=>i=w.heap.size) wr aS:=aq.of_grownBy hg2 (λi e=>bJ (by cases e;rfl));have W:=hid (And.intro (ap9 D g v▸jo) (And.intro hk2 (nn Dj.out hk2 (λq a e=>by have:=(Dj.out.lt q a).1;omega))));have kT:=hid hs2;clear jo hg2 hk2 hs2)
           |(at_builtin;go_loud (refine JE _ aa (.tmp 95) (.tmp 97) 82 aa M.heap.size 3 i0 _ 1 8 ik de.out.1 de.out.2.1 de.out.2.2.1 de.out.2.2.2 aa ae _ out.length (out.map (J R)) aa (nn W.out.2.2 (aq.alloc (F:=λ_=>False) _ _) (λ_ _ h=>h)) _ 1 1 [J R v] aa aa (ES _ _ _) (by simp[wh]) (by unfold dO;omega) ae (by have:=kT.out;simp;omega) ?_);intro Mv bN HH Hp _ aaD;have hk3:=aq.of_grownBy (F:=λi=>_=ab i) Hp (λi e=>bJ e);have iA:=hid (And.intro HH (And.intro hk3 aaD));clear HH Hp hk3 aaD));have hs2:=kT.out;have oY:aq (λi=>w.heap.size<=i) w bN:=((ac.out.2.2.2.1.trans (W.out.2.1.mono (G:=λi=>w.heap.size<=i) (λi _ e=>ae)) (λ_ _ h=>h)).trans (aq.alloc (F:=λi=>w.heap.size<=i) _ _) (λ_ _ h=>h)).trans (iA.out.2.1.mono (G:=λi=>w.heap.size<=i) (λi _ e=>by have:=(Dj.out.lt i e).1;omega)) (λ_ _ h=>h);have G9:=(W.out.1.only (aq.alloc (F:=λ_=>False) aS (bf #[J R v] 3)) (λh=>h)).only iA.out.2.1 (λe=>by have:=(Dj.out.lt _ e).1;omega);have ZE:=((ac.out.2.1.only W.out.2.1 (λq a e=>by have hq':g'=q:=Ke a;omega)).only (aq.alloc (F:=λ_=>False) aS (bf #[J R v] 3)) (λ_ _ h=>h)).only iA.out.2.1 (λq a e=>ac.out.2.2.1 q e a)
          have ZN:∀q,Mv.ownBlock=ab q->g'≠q:=λq a e=>by
           rcases iA.out.2.2 with h|h;·exact ac.out.2.2.1 q (h.symm.trans a) (congrArg ab e)
           .rw[h]at a;simp at a;omega
          have hs3:=iA.out.2.1.size;simp only[World.size_alloc]at hs3;have T:=hid (And.intro oY (And.intro G9 (And.intro ZE (And.intro ZN (And.intro iA.out.1 ac.out.1)))));have bm:=hid hb2;have ayZ:wr.heap.size<=aS.heap.size:=ae;have mW:=hid ac.out.2.2.2.2.1;have nz:=hid ac.out.2.2.2.2.2;clear oY G9 ZE ZN iA W ac Dj bX kT hs2 anU hb2 hcell;go_wp2_with (go_at_call 92;refine(arN b j v E F bN (X.out.1.aI (b5.aI T.out.1)) mW.out ae).mono ?_;rintro e dX ⟨I6,DJ,rfl,aam,ZS,wS⟩);have axX:=wS.size;have xI:=hid (And.intro aam (And.intro ZS (And.intro (T.out.1.trans wS (λ_ _ h=>h.elim)) (And.intro (T.out.2.1.only wS (λh=>h)) (And.intro (T.out.2.2.1.only wS (λ_ _ h=>h)) (nn T.out.2.2.2.2.1 wS (λ_ _ h=>h)))))));have hN:=arL E v;have ayx:=bm.out.2;clear aam ZS wS
          go_loopw [14,103] (λAo i wr=>∃(m:Nat) (H:Int->Int) (xf:List Int),m<=(lY E v).length/\i=J R m/\oO E j s out D v ((lY E v).take m) H xf/\dZ wr w.heap.size encI db (k5 (D.filter (λy=>!decide (y=v))) H)/\
           wr.ownsRow M.heap.size 3 1 Mv (out.length+1) (out.map (J R)++[J R v])/\cX wr I6 (lY E v)/\eY wr M.heap.size Ao xf/\(∀q,Ao.ownBlock=ab q->Mv.ownBlock≠ab q/\∀off,I6≠ab ⟨q,off,af⟩)/\
           dX.heap.size<=wr.heap.size/\aq (λi=>w.heap.size<=i) w wr) (λ_ i _=>(lY E v).length -(cg i).toNat)
          case atStart=>
           refine⟨0,g,_,cQ _,aa,T.out.2.2.2.2.2,xI.out.2.2.2.1,xI.out.2.2.2.2.2,xI.out.1,xI.out.2.2.2.2.1,λq a=>?_,cp _,xI.out.2.2.1⟩;obtain rfl:g'=q:=Ke a;exact⟨λh=>T.out.2.2.2.1 _ h rfl,λoff h=>by have:=(xI.out.2.1 _ off h).1;omega⟩
          case round=>
           obtain⟨m,H,xf,hm,rfl,U,p,hrow,e6,Q,hap,apb,I⟩:=hrel;have fm:=p.lt;by_cases qH:m<(lY E v).length
           .have l:=hid (And.intro U (And.intro hrow (And.intro e6 (And.intro hap I))));obtain⟨fU,aro,rfl,hcell⟩:=e6 ae;have h1:=hcell m qH;obtain⟨x,hx⟩:∃x,(lY E v)[m]?=ab x:=⟨_,cm qH⟩;simp only[hx,pD]at h1;have H2:=cM hx;have B9:0<=x/\x<(j:Int):=(X.out.1.2.2 _ (acj.1 H2)).2.1;have V:db x:=⟨ae,ae⟩;have hb1:(m:Int)<((lY E v).length:Int):=ae;have jF:aE ((lY E v).take (m+1)=(lY E v).take m++[x]):=hid (by rw[fv,hx];rfl)
            have abo:x∉(lY E v).take m:=λh=>by have eh:(lY E v).Nodup:=z' (aul (auD X.out.1.2.1 v));obtain⟨q,a⟩:=P5 h;have nM:=(eR.1 a).1;rw[oP]at nM;rw[su,if_pos ae]at a;have:=(List.getElem?_inj ae eh).1 (a.trans hx.symm);omega
            have B:=(z8 p V).2;have hl2:=(z8 p V).1;have JX:=hid V;have G6:(D.filter (λy=>!decide (y=v))).length<=1048576:=ae;have PL:=hid abo;have ai0:=hid H2;clear U hrow e6 hap I hcell hx V abo H2;by_cases n:x∈D.filter (λy=>!decide (y=v))
            .rw[if_pos n]at B hl2;have t:decide (x∈D.filter (λy=>!decide (y=v)))=true:=by simpa using n
             rw[t]at B;have Eh:x∈D/\x≠v:=by simpa using n
             have fN:=hid (And.intro n Eh);have mH:=l.out.1.pos X.out.1.2.1 Eh ai0.out PL.out;obtain⟨d,pQ⟩:=ex (H x);rw[pQ]at B hl2 mH;have sm:=hid pQ;clear n Eh t pQ;obtain⟨NU,iF,rfl,_,_⟩:=Q.form;have z1:=l.out.1.small;have abi:∀q,(ad NU xf.length iF).ownBlock=ab q->M.heap.size<=q/\q<wr.heap.size:=λq a=>Q.lt a;have jw:=hid (And.intro Q abi);clear Q abi;by_cases rN:d=1
             .subst rN
              go_wp2_with (first
               |(at_mapUpdate;refine IS aa _ _ _ aa o4 uK p (by rw[Cb];unfold dO;omega) aa JX.out aa (J R 0) aa ?_;intro dH yu Hn vy;rw[SK fN.out.1]at yu;have BU:=(z8 yu JX.out).1;rw[if_pos fN.out.1,show dA H x 0 x=0 by simp[dA]]at BU;have BT:aq (λi=>i=w.heap.size) wr dH:=aq.of_grownBy Hn (λi e=>bJ (by cases e;rfl));have O:=hid (And.intro yu (And.intro BT (And.intro vy (jw.out.1.only BT (λq a e=>by have:=(jw.out.2 q a).1;omega)))));clear yu BT vy Hn)
               |(go_at_call 305;refine(MQ NU iF xf x dH O.out.2.2.2.nR (l.out.1.sorted.imp (λh=>ae)) ae).mono ?_;rintro e e9 ⟨Tw,rfl,MG,rfl⟩)
               |(go_at_call 306;refine(apJ M.heap.size (ad NU xf.length iF) xf (xf.countP (·<x)) x (dH.drewN MG).heap.size _ (O.out.2.2.2.only (ao.trans (aq.drewN dH MG) (aq.alloc _ _)) (λ_ _ h=>h)) PY (heap_alloc_new _ _) (λq a e=>by have:=(jw.out.2 q a).2;have h8:=O.out.2.2.1;simp at e;omega) ae (by have h8:=O.out.2.2.1;simp;omega)).mono ?_;rintro e hT ⟨v10,rfl,ZD,Ek,aav⟩));have vy:=O.out.2.2.1;have Hu:ao dH ((dH.drewN MG).alloc (bf #[J R x] 3)):=ao.trans (aq.drewN dH MG) (aq.alloc _ _);have aa1:=Ek.size;simp at aa1;have xQ:aE (dA H x (H x -1)=dA H x 0):=hid (by rw[sm.out];rfl);have BC:=l.out.1.alT fN.out.2 PL.out (by rw[sm.out];rfl);rw[xQ.out]at BC;have Zv:=(O.out.1.only Hu (λh=>h)).only Ek (λe=>by have:=(jw.out.2 _ e).1;omega);have HQ:=nn ((nn (nn l.out.2.1 O.out.2.1 (λq a e=>by have:=(l.out.2.1.lt q a).1;omega)) Hu (λ_ _ h=>h))) Ek (λq a e=>(l.out.2.2.2.1 q e).1 a);have HU:=((l.out.2.2.1.only O.out.2.1 (λq off a e=>by have:=(xI.out.2.1 q off a).1;omega)).only Hu (λ_ _ _ h=>h)).only Ek (λq off a e=>(l.out.2.2.2.1 q e).2 off a)
              have ZL:∀q,v10.ownBlock=ab q->Mv.ownBlock≠ab q/\∀off,ab (⟨fU,aro,af⟩:Addr)≠ab ⟨q,off,af⟩:=λq a=>by
               rcases aav with h|⟨gh,h,mc⟩;·exact l.out.2.2.2.1 q (h.symm.trans a)
               .obtain rfl:gh=q:=Ke (h.symm.trans a);simp at mc;refine⟨λe=>?_,λoff e=>?_⟩;·have:=(l.out.2.1.lt _ e).2;omega
                .have:=(xI.out.2.1 _ _ e).2;omega
              have Ha:=((l.out.2.2.2.2.trans (O.out.2.1.mono (G:=λi=>w.heap.size<=i) (λi _ e=>ae)) (λ_ _ h=>h)).trans Hu (λ_ _ h=>h.elim)).trans (Ek.mono (G:=λi=>w.heap.size<=i) (λi _ e=>by have:=(jw.out.2 _ e).1;omega)) (λ_ _ h=>h);have fY:=hid (And.intro BC (And.intro Zv (And.intro HQ (And.intro HU (And.intro ZD (And.intro ZL (And.intro (by omega:dX.heap.size<=hT.heap.size) Ha)))))));clear vy Hu aa1 BC Zv HQ HU ZL Ha ZD Ek aav B hl2 BU p;go_wp2;go_roundw
              case rel=>
               obtain⟨gp,a2,a3,a4,a5,Bi,Kl,Qh⟩:=fY.out;exact⟨m+1,_,_,ae,by go_num,jF.out▸gp,a2,a3,a4,a5,Bi,Kl,Qh⟩
              case measure=>simp[cg];omega
             .have hne:(d -1==0)=false:=by simp;omega
              have pP:aE (d -1≠0):=hid ae;go_wp2_with (at_mapUpdate;refine IS aa _ _ _ aa o4 uK p (by rw[Cb];unfold dO;omega) aa JX.out aa (J R (d -1)) aa ?_;intro dH yu Hn vy;rw[SK fN.out.1]at yu;have BU:=(z8 yu JX.out).1;rw[if_pos fN.out.1,show dA H x (d -1) x=d -1 by simp[dA]]at BU;have BT:aq (λi=>i=w.heap.size) wr dH:=aq.of_grownBy Hn (λi e=>bJ (by cases e;rfl));have O:=hid (And.intro yu (And.intro BT (And.intro vy (jw.out.1.only BT (λq a e=>by have:=(jw.out.2 q a).1;omega)))));clear yu BT vy Hn);have vy:=O.out.2.1.size;have BC:=l.out.1.alS fN.out.2 PL.out (by rw[sm.out];exact mH.1) (by rw[sm.out];exact pP.out);rw[sm.out]at BC;have HQ:=nn l.out.2.1 O.out.2.1 (λq a e=>by have:=(l.out.2.1.lt q a).1;omega);have HU:=l.out.2.2.1.only O.out.2.1 (λq off a e=>by have:=(xI.out.2.1 q off a).1;omega);have Ha:=l.out.2.2.2.2.trans (O.out.2.1.mono (G:=λi=>w.heap.size<=i) (λi _ e=>ae)) (λ_ _ h=>h);have fY:=hid (And.intro BC (And.intro O.out.1 (And.intro HQ (And.intro HU (And.intro O.out.2.2.2 (And.intro l.out.2.2.2.1 (And.intro (by omega:dX.heap.size<=dH.heap.size) Ha)))))));clear vy BC HQ HU Ha B hl2 BU p;go_wp2;go_roundw
              case rel=>
               obtain⟨gp,a2,a3,a4,a5,Bi,Kl,Qh⟩:=fY.out;exact⟨m+1,_,_,ae,by go_num,jF.out▸gp,a2,a3,a4,a5,Bi,Kl,Qh⟩
              case measure=>simp[cg];omega
            .rw[if_neg n]at B;have t:decide (x∈D.filter (λy=>!decide (y=v)))=false:=by simpa using n
             rw[t]at B;have Eh:¬(x∈D/\x≠v):=by simpa using n
             have F5:=hid (And.intro (l.out.1.skip Eh) (And.intro p Q));clear n Eh t hl2 p Q;go_wp2;go_roundw;case rel=>exact⟨m+1,H,xf,ae,by go_num,jF.out▸F5.out.1,F5.out.2.1,l.out.2.1,l.out.2.2.1,F5.out.2.2,l.out.2.2.2.1,apb,l.out.2.2.2.2⟩
             case measure=>simp[cg];omega
           .obtain rfl:m=(lY E v).length:=ae;rw[il]at U;have eg:=p.size;rw[Cb]at eg;have cr:=hid (And.intro (U.done X.out.1.2.1) (And.intro p (And.intro hrow (And.intro Q (And.intro hap (And.intro I eg))))));clear U p hrow e6 Q hap I eg;go_wp2;go_roundw
            case rel=>
             obtain⟨gp,a2,a3,a4,a5,Bi,Kl⟩:=cr.out;exact⟨_,_,H,xf,gp,a2,by simpa using a3,a4,λq a h=>(a5 q h).1 a,ae,Bi⟩
            case measure=>rw[cr.out.2.2.2.2.2.2,nz.out];exact hlt
    .intro v avh bN HW Su Eo hk3 hs3 hen;obtain⟨gi,fQ,iM,p3⟩:=C.out;have LO:=(fQ v HW).1;have Ex:=(Me.1 LO).1;rw[L1,if_pos LO]at Su;obtain rfl:J R (f v)=avh:=Ke Su;dsimp only[encI]at hen⊢;have oY:=p3.trans (hk3.mono (G:=λi=>w.heap.size<=i) (λi _ e=>ae)) (λ_ _ h=>h);have V:db v:=⟨ae,ae⟩
     have gd:(left.filter (λy=>!decide (y=v))).length<left.length:=by have:=(L2 K.2.1 HW).length_eq;simp at this⊢;omega
     have Z:=hid (And.intro HW (And.intro LO (And.intro Eo (And.intro oY (And.intro V (And.intro K.left_eq (L2 K.2.1 HW)))))));have ql:=hid hs3;clear gi fQ iM p3 LO HW Su Eo hk3 oY V K hs3;go_wp2_with (go_at_call 304;refine(apy b k v E F bN (X.out.1.aI (b5.aI Z.out.2.2.2.1)) Z.out.2.2.2.2.1 ae).mono ?_;rintro e cc ⟨lh,lu,rfl,aal,hb4,hg4⟩);have axW:=hg4.size;have aaG:∀gh off,lh=ab ⟨gh,off,af⟩->¬(gh=w.heap.size):=λgh off e=>by have:=hb4 gh off e;have:=ql.out;omega
     have rT:=Z.out.2.2.1.only hg4 (λh=>h) (λh=>h);have oZ:=Z.out.2.2.2.1.trans hg4 (λ_ _ h=>h.elim);have yn:=(C.out.2.1 v Z.out.1).2;have T:=hid (And.intro aal (And.intro aaG (And.intro rT (And.intro oZ yn))));have hr4:r<cc.heap.size:=by have:=ql.out;omega
     have ayA:=abz E v;clear aal hb4 hg4 aaG rT oZ yn hen
     go_loopw [48] (λi wr=>∃(j:Nat) (H:Int->Int),j<=(mK E v).length/\i=J R j/\Over wr w.heap.size r encI db (k5 (hG k s) H) (left.filter (λy=>!decide (y=v)))/\H v=(((mK E v).take j).countP (λu=>decide (u∈hG k s)):Nat)/\
      (∀z,z≠v->H z=f z)/\r<wr.heap.size/\aq (λi=>i=w.heap.size) cc wr) (λi _=>(mK E v).length -(cg i).toNat);case atStart=>exact⟨0,f,cQ _,aa,T.out.2.2.1,by simpa using T.out.2.2.2.2,λ_ _=>aa,hr4,aq.refl _ _⟩
     case round=>
      obtain⟨j,H,hj,rfl,K,pS,BP,aa0,Y⟩:=hrel;have K7:=K.ace;have Sk:=T.out.1.only Y T.out.2.1;have P:=hid (And.intro K (And.intro BP Y));have ax0:=Y.size;clear BP Y;by_cases kJ:j<(mK E v).length
      .obtain⟨fU,off,rfl,hcell⟩:=Sk ae;have h1:=hcell j kJ;obtain⟨x,hx⟩:∃x,(mK E v)[j]?=ab x:=⟨_,cm kJ⟩;simp only[hx,pD]at h1;have yC:=SU.1 (cM hx);have B9:=(X.out.1.2.2 _ yC).1;have hb1:(j:Int)<((mK E v).length:Int):=ae;have B:=(z8 K7 (x:=x) ⟨ae,ae⟩).2;have hl2:=(z8 K7 (x:=v) Z.out.2.2.2.2.1).1;rw[if_pos Z.out.2.1,pS]at hl2;have ayo:((mK E v).take j).countP (λu=>decide (u∈hG k s))<=1048576:=eD PY (by rw[oP];omega)
       have C':aE (((mK E v).take (j+1)).countP (λu=>decide (u∈hG k s))=((mK E v).take j).countP (λu=>decide (u∈hG k s))+if x∈hG k s then 1 else 0):=hid (by rw[fv,hx];simp );have xR:=hid (And.intro hx pS);generalize ((mK E v).take j).countP (λu=>decide (u∈hG k s))=cnt at*;clear hcell Sk hx yC K7 pS;by_cases n:x∈hG k s
       .rw[if_pos n]at B;have l:=hid n;have t:decide (x∈hG k s)=true:=by simpa using n
        rw[t]at B;clear n t;go_wp2_with (at_mapUpdate;refine avC aa _ _ _ aa o4 uK K aa Z.out.2.2.2.2.1 (by rw[L1,if_pos Z.out.2.1];exact⟨_,aa⟩) aa (J _ _) aa ?_;intro c6 Sa Ht ay1);rw[SK Z.out.2.1]at Sa;have qj:=hid (And.intro Sa (P.out.2.2.trans Ht (λ_ _ h=>h)));clear Sa Ht B hl2 K;go_wp2;go_roundw
        case rel=>
         refine⟨j+1,_,ae,by go_num,qj.out.1,?_,λz hz=>?_,ae,qj.out.2⟩;·rw[C'.out,if_pos l.out];simp[dA]
         .unfold dA;rw[if_neg hz];exact P.out.2.1 z hz
        case measure=>simp[cg];omega
       .rw[if_neg n]at B;have l:=hid n;have t:decide (x∈hG k s)=false:=by simpa using n
        rw[t]at B;clear n t;go_wp2;go_roundw;case rel=>exact⟨j+1,H,ae,by go_num,P.out.1,by rw[C'.out,if_neg l.out];exact xR.out.2,P.out.2.1,aa0,P.out.2.2⟩
        case measure=>simp[cg];omega
      .obtain rfl:j=(mK E v).length:=ae;have cr:=hid pS;clear pS Sk K7;go_wp2;go_roundw
       case rel=>
        refine⟨_,H,K,λx hx iJ=>?_,λx hx=>?_,aa0,T.out.2.2.2.1.trans P.out.2.2 (λi _ e=>ae)⟩
        .by_cases sR:x=v;·subst sR;rw[cr.out,il];rfl
         .rw[P.out.2.1 x sR];exact C.out.1 x hx (λh=>iJ (mZ.2 ⟨h,by simpa using sR⟩))
        .obtain⟨gp,a2⟩:=mZ.1 hx;have sR:x≠v:=by simpa using a2
         rw[P.out.2.1 x sR];exact C.out.2.1 x gp
       case measure=>rw[P.out.1.left_eq,Z.out.2.2.2.2.2.1];exact gd
end G
end Go.Proofs.YtcmhplknoglbkaaGreat
