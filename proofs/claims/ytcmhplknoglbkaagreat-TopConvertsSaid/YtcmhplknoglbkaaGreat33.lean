/- Part 33 of the proof of TopConvertsSaid. -/
import Derived.Deep.LoopGhost
import Derived.Test.YtcmhplknoglbkaaGreat0
import Derived.Test.YtcmhplknoglbkaaGreat6
import Derived.Test.YtcmhplknoglbkaaGreat21
import Derived.Test.YtcmhplknoglbkaaGreat27
import Derived.Test.YtcmhplknoglbkaaGreat32
set_option linter.all false
set_option maxRecDepth 100000
set_option maxHeartbeats 4000000
open Go.Proofs.Tryz
open Go renaming Calls->aD,Value->aP,World->aN,cell_of_one->pr,heap_alloc_new->ff,wpList_append_own_at->JE
open Go.Ending renaming returned->aA
open Go.IntKind renaming i64->R
open Go.Obj renaming cells->bf
open Go.Proofs.Tryz renaming func176->age,ntmps176->ag5,prog->ax,underlying118->uK,underlying82->ik
open Go.Proofs renaming intOf->cg
open Go.Value renaming bool->aj,int->J,oneCell'->wh,pointer->ay,slice->ad,tuple->bh
open Go.World renaming block_lt_of_cell?->uN
open Go.World.ownsRow renaming lt->wi
open List renaming append_nil->j6
open Nat renaming le_trans->eD
open Option renaming none->af,some->ab
open Or renaming inl->bJ
namespace Go.Proofs.YtcmhplknoglbkaaGreat
namespace G
open Go.RowKit Go.MapKept
def Cn(r:Bool)(o:List Int):List Int:=if r=true then o else[]
def arK (b N:Nat) E F A c s w (q:gV w F b N E) (x:cX w A s) (y:s.length<=9223372036854775807) (u:E.length<=1048576)
 o (v:mx E N s o) r (hr:decide (kp N s o=[])=r):
 aD ax 176 #[ay (ab ⟨b,0,af⟩),ad A s.length c] w λe w'=>∃m C,e=aA (bh #[ad m (Cn r o).length C,aj r])/\cX w' m (Cn r o)/\(∀k off,m=ab ⟨k,off,af⟩->w.heap.size<=k)/\ao w w':=by
 have a:=hid (And.intro q (And.intro x v));clear q x v;cases r;·have hne:0<(kp N s o).length:=List.length_pos_iff.2 (show kp N s o≠[] by grind);clear hr;go_enter age,ag5;go_wp2_with fail;go_at_call 250;refine(TC b N E F A c s w a.out.1 a.out.2.1 y u).mono ?_;rintro e w1 ⟨la,D,f,o',rfl,j,l,g,i⟩;obtain rfl:=j.unique a.out.2.2;have p:=λty=>run_len_map g uK ty;rw[Cb]at p;have d:=hid i;clear l g i j;generalize (kp N s o').length=n at*;go_wp2;go_ret2;exact⟨af,0,aa,cX.nil,(λ_ _ h=>aG),d.out⟩
 .have t:(kp N s o).length=0:=List.length_eq_zero_iff.2 aG;have B:=hid t;clear hr t;go_enter age,ag5;go_wp2_with fail;go_at_call 250;refine(TC b N E F A c s w a.out.1 a.out.2.1 y u).mono ?_;rintro e w1 ⟨la,D,f,o',rfl,j,l,g,i⟩;obtain rfl:=j.unique a.out.2.2;have p:=λty=>run_len_map g uK ty;rw[Cb,B.out]at p;obtain⟨z,c1,rfl,hi,_,_,hloc⟩:=l.form;have d:=hid (And.intro hi (And.intro hloc i));clear l g i j hi hloc;go_wp2;go_ret2;exact⟨z,c1,aa,d.out.1,λk off h=>(d.out.2.1 k _ h).1,d.out.2.2⟩
open Go.RowKit Go.MapKept
def Path.perm{E E'}(h:E.Perm E'){u x}:Path E u x↔Path E' u x:=⟨λp=>p.mono (λ_ a=>h.mem_iff.1 a),λp=>p.mono (λ_ a=>h.mem_iff.2 a)⟩
def kA.amD{E}{N:Nat}{s xs}(a:Valid N E)(h:kA E s xs):(du N).filter (λx=>decide (x∈xs))=xs:=by refine YO ((CG N).filter _) h.1 (λx=>?_);rw[List.mem_filter,decide_eq_true_eq];exact⟨λq=>q.2,λq=>⟨qK.2 (Aj (a.cut s) ((h.2 x).1 q)),q⟩⟩
def alF{N k}(hk:k<N)(xs:List Int):((du N).take (k+1)).filter (λx=>decide (x∈xs))=((du N).take k).filter (λx=>decide (x∈xs))++(if(k:Int)∈xs then[(k:Int)]else[]):=by grind[M8]
def alE(N k)(xs:List Int):(((du N).take k).filter (λx=>decide (x∈xs))).length<=k:=aG
def alH (b N:Nat) E F A c s w (G:gV w F b N E) (hs:cX w A s) (e6:s.length<=9223372036854775807) (eV:E.length<=1048576)
 xs (hx:kA E s xs):
 aD ax 333 #[ay (ab ⟨b,0,af⟩),ad A s.length c] w λe w'=>∃v,e=aA v/\pC w w' v xs/\ao w w':=by
 have fl:=G.small.2;have S:=G.2.2;have g:=hid (And.intro G (And.intro hs (And.intro hx (And.intro S (hx.amD S)))));obtain⟨i0,gQ,hz0,hz1,hz2⟩:=info_parts z7;have C:=hid (And.intro gQ (And.intro hz0 (And.intro hz1 hz2)));clear G hs hx S gQ hz0 hz1 hz2;go_enter func333,ntmps333;go_wp2_with fail;go_at_call 250;refine(TC b N E F A c s w g.out.1 g.out.2.1 e6 eV).mono ?_;rintro e w1 ⟨la,md,f,o,rfl,ho,hn,Z,hg1⟩;have m:=hid (And.intro ho (And.intro Z (And.intro hg1 hg1.size)));clear ho hn Z hg1;go_wp2_with (go_at_call 361;refine(avx b N E F A c s w1 (g.out.1.aI m.out.2.2.1) (g.out.2.1.aI m.out.2.2.1) e6 eV).mono ?_;rintro e j ⟨X,M,rfl,Y,V,hg2⟩);have aab:M.length<=1048576:=by have h1:=V.length_eq;have h2:=QR E s;omega
 have hs2:w.heap.size<=j.heap.size:=by have h1:=m.out.2.2.2;have h2:=hg2.size;omega
 have l:=hid (And.intro Y (And.intro V (And.intro (m.out.2.1.only hg2 (λh=>h)) (And.intro (ao.trans m.out.2.2.1 hg2) (m.out.2.1.only hg2 (λh=>h)).lt))));clear Y V hg2;go_wp2_with (go_at_call 303;refine(w6 b N _ (g.out.1.aI l.out.2.2.2.1).SY).mono ?_;rintro e bN ⟨rfl,rfl⟩)
 go_loopw [8,23] (λej i wr=>∃k:Nat,k<=N/\i=J R k/\wr.ownsRow w.heap.size 3 1 ej (((du N).take k).filter (λx=>decide (x∈xs))).length ((((du N).take k).filter (λx=>decide (x∈xs))).map (J R))/\
  aq (λi=>j.heap.size<=i) j wr/\(∀q,ej.ownBlock=ab q->j.heap.size<=q)) (λ_ i _=>N -(cg i).toNat);case atStart=>exact⟨0,Nat.zero_le _,aa,⟨aU,bJ ⟨aa,aU⟩⟩,aq.refl _ _,λq h=>by cases h⟩
 case round=>
  obtain⟨k,hk,rfl,hrow,T,p⟩:=hrel;have D7:=T.size;have a:=hid (And.intro hrow (And.intro T p));clear hrow T p;by_cases hlt:k<N
  .have hb0:(k:Int)<(N:Int):=ae;have U:db (k:Int):=⟨ae,ae⟩;have P:=hid (alF hlt xs);have hlen:=alE N k xs;have H:=(z8 (l.out.2.2.1.only a.out.2.1 (by have:=l.out.2.2.2.2;omega)) U).2;have W:=hid U;clear U;generalize ((du N).take k).filter (λx=>decide (x∈xs))=L at*;by_cases y:(k:Int)∈kp N s o
   .rw[if_pos y]at H;have t:decide ((k:Int)∈kp N s o)=true:=aG;rw[t]at H;clear y t;obtain⟨r,hr⟩:∃q:Bool,decide ((k:Int)∈xs)=q:=⟨_,aa⟩;have D:=hid hr;clear hr;cases r
    .go_wp2_with (first
      |(go_at_call 362;refine(adw X N k M _ wr (l.out.1.only a.out.2.1 (λi hi h=>ae)) W.out aab).mono ?_;rintro e I ⟨K,Q,cq,rfl,u,B,z,n⟩;have d:=hid (And.intro u (And.intro B (And.intro z n)));clear u B z n)
      |(go_at_call 190;refine(DN K Q cq k I false (by rw[<-D.out];congr 1;rw[eq_iff_iff,d.out.2.1.2,g.out.2.2.1.2];exact Path.perm l.out.2.1) d.out.1 d.out.2.2.1).mono ?_;rintro e c6 ⟨rfl,rfl⟩));go_roundw;case rel=>exact⟨k+1,ae,by go_num,by rw[P.out,if_neg (by simpa using D.out),j6];exact nn a.out.1 d.out.2.2.2 (λ_ _ h=>h),a.out.2.1.trans d.out.2.2.2 (λ_ _ h=>h.elim),a.out.2.2⟩
     case measure=>grind[cg]
    .go_wp2_with (first
      |(go_at_call 362;refine(adw X N k M _ wr (l.out.1.only a.out.2.1 (λi hi h=>ae)) W.out aab).mono ?_;rintro e I ⟨K,Q,cq,rfl,u,B,z,n⟩;have ax1:=n.size;have d:=hid (And.intro u (And.intro B (And.intro z n)));clear u B z n)
      |(go_at_call 190;refine(DN K Q cq k I true (by rw[<-D.out];congr 1;rw[eq_iff_iff,d.out.2.1.2,g.out.2.2.1.2];exact Path.perm l.out.2.1) d.out.1 d.out.2.2.1).mono ?_;rintro e c6 ⟨rfl,rfl⟩)
      |(at_builtin;go_loud (refine JE _ aa (.tmp 40) (.tmp 42) 82 aa w.heap.size 3 i0 _ 1 8 ik C.out.1 C.out.2.1 C.out.2.2.1 C.out.2.2.2 aa ae _ L.length _ aa (nn a.out.1 (ao.trans d.out.2.2.2 (aq.alloc (F:=λ_=>False) _ _)) (λ_ _ h=>h)) _ 1 1 _ aa aa (ES _ _ _) (by simp[wh]) (by unfold maxLen;omega) ae (by simp;omega) ?_;intro xl dH LC Hq _ El)));have H4:aq (λi=>j.heap.size<=i) (I.alloc (bf #[J R (k:Int)] 3)) dH:=aq.of_grownBy Hq (λi e=>bJ (a.out.2.2 i e));have D6:aq (λi=>j.heap.size<=i) j dH:=((a.out.2.1.trans d.out.2.2.2 (λ_ _ h=>h.elim)).trans (aq.alloc (F:=λi=>j.heap.size<=i) _ _) (λ_ _ h=>h)).trans H4 (λ_ _ h=>h)
     have HL:∀q,xl.ownBlock=ab q->j.heap.size<=q:=λq p=>by
      rcases El with h|h;·exact a.out.2.2 q (h.symm.trans p)
      .rw[h]at p;simp at p;omega
     have O:=hid (And.intro LC (And.intro D6 HL));clear LC Hq El H4 D6 HL;go_wp2;go_roundw;case rel=>exact⟨k+1,ae,by go_num,by rw[P.out,if_pos (by simpa using D.out)];simpa using O.out.1,O.out.2.1,O.out.2.2⟩
     case measure=>grind[cg]
   .rw[if_neg y]at H;have t:decide ((k:Int)∈kp N s o)=false:=aG;rw[t]at H;have jE:Hid ((k:Int)∉xs):=hid (λh=>y (g.out.2.2.1.rest g.out.2.2.2.1 m.out.1 h));clear y t;go_wp2;go_roundw;case rel=>exact⟨k+1,ae,by go_num,by rw[P.out,if_neg jE.out,j6];exact a.out.1,a.out.2.1,a.out.2.2⟩
    case measure=>grind[cg]
  .obtain rfl:k=N:=ae;have hrow:=a.out.1;rw[List.take_of_length_le (by simp[du]),g.out.2.2.2.2]at hrow;have cr:=hid hrow;clear hrow;go_wp2;go_ret;exact⟨_,aa,cr.out,ao.trans l.out.2.2.2.1 (b5.aI a.out.2.1)⟩
open Go.RowKit Go.MapKept
def ap7 x a A c keep W(hc:W.cell? ⟨a,0,af⟩=ab (ad A keep.length c))(hk:cX W A keep)(h1:keep.length<=9223372036854775807):
 aD ax 335 #[J R x,ay (ab ⟨a,0,af⟩)] W λe w'=>e=aA (aj (decide (x∈keep)))/\∃q,w'=W.drewN q:=by
 have b:=hid hk;clear hk;go_enter func335,ntmps335;go_wp2_with (go_at_call 190;refine(GN A c _ x W b.out h1).mono ?_;rintro e w1 ⟨rfl,rfl⟩);go_ret;exact⟨aa,0,aa⟩
def avu x a A c ws W(hc:W.cell? ⟨a,0,af⟩=ab (ad A ws.length c))(hk:cX W A ws)(h1:ws.length<=9223372036854775807):
 aD ax 337 #[J R x,ay (ab ⟨a,0,af⟩)] W λe w'=>e=aA (J R (nV ws x))/\W=w':=by
 have b:=hid hk;clear hk;go_enter func337,ntmps337;go_wp2_with (go_at_call 338;refine(avt A c ws x W b.out h1).mono ?_;rintro e w1 ⟨rfl,rfl⟩);go_ret;exact⟨aa,aa⟩
def akg{f L}:decide (0<L.length)=(jA f L).isSome:=by
 cases h:jA f L with
 |none=>grind[Qq]
 |some v=>
  have:=List.length_pos_of_mem (Qp h);simp[this]
def amq args w:(callFunc 335 args).run ax w=.ok (.enter 335 args) w:=aT
def amr args w:(callFunc 337 args).run ax w=.ok (.enter 337 args) w:=aT
def aq6 (b N:Nat) E F gM ib ws p v s fR gB keep w (z:gV w F b N E) (D:cX w gM ws) (hr:cX w p s) (hk:cX w fR keep)
 (HZ:ws.length<=9223372036854775807) (e6:s.length<=9223372036854775807) (vp:keep.length<=9223372036854775807) (eV:E.length<=1048576) xs (hx:kA E s xs) o (ho:jA (nV ws) (kept xs keep)=o) l7 (sO:decide (0<xs.length)=l7):
 aD ax 302 #[ay (ab ⟨b,0,af⟩),ad gM ws.length ib,ad p s.length v,ad fR keep.length gB] w λe w'=>
  e=aA (bh #[J R (o.getD 0),aj o.isSome,aj l7])/\ao w w':=by
 have j:=hid (And.intro z (And.intro D (And.intro hr (And.intro hk hx))));have I:=hid ho;have S:decide (0<(xs.length:Int))=l7:=by rw[<-sO];congr 1;rw[eq_iff_iff];omega
 clear z D hr hk hx ho;go_enter func302,ntmps302;go_wp2_with fail;go_at_call 333;have d:Hid (ao w ((w.alloc (bf #[ad gM ws.length ib] 82)).alloc (bf #[ad fR keep.length gB] 82))):=hid (ao.trans (aq.alloc _ _) (aq.alloc _ _))
 have n:Hid (((w.alloc (bf #[ad gM ws.length ib] 82)).alloc (bf #[ad fR keep.length gB] 82)).cell? ⟨w.heap.size,0,af⟩=ab (ad gM ws.length ib)/\((w.alloc (bf #[ad gM ws.length ib] 82)).alloc (bf #[ad fR keep.length gB] 82)).cell? ⟨w.heap.size+1,0,af⟩=ab (ad fR keep.length gB)):=hid (by
  constructor;·exact(aq.alloc (F:=λ_=>False) _ _).cell (cell_of_row _ _ 0 _ _ _ (ff w _)) (λh=>h)
  .simp);refine(alH b N E F p v s _ (j.out.1.aI d.out) (j.out.2.2.1.aI d.out) e6 eV xs j.out.2.2.2.2).mono ?_;generalize (w.alloc (bf #[ad gM ws.length ib] 82)).alloc (bf #[ad fR keep.length gB] 82)=an at*;rintro e w1 ⟨T,rfl,r,hg1⟩;obtain⟨l,c1,rfl,M,P,hl2,hloc⟩:=r.form;have G:xs.length<=9223372036854775807:=by grind[maxLen]
 have a:=hid (And.intro r (And.intro hg1 (And.intro (ao.trans d.out hg1) hloc)));have hs0:=d.out.size;have u:=hid (And.intro (uN _ _ n.out.1) (uN _ _ n.out.2));clear r hg1 hloc M P hl2
 have t:Hid (aD ax 334 #[ad l xs.length c1,.func (.func 335) #[] #[ay (ab ⟨w.heap.size+1,0,af⟩)]] w1 λe w'=>∃A c,e=aA (ad A (kept xs keep).length c)/\cX w' A (kept xs keep)/\aq (λi=>(ad l xs.length c1).ownBlock=ab i) w1 w'):=hid (by
  refine(alV 335 #[ay (ab ⟨w.heap.size+1,0,af⟩)] amq (λx=>decide (x∈keep)) _ _ xs w1 a.out.1 G (λW x K=>?_)).mono ?_
  .have hno:∀i,i<an.heap.size->¬(ad l xs.length c1).ownBlock=ab i:=λi hi h=>by have:=(wi a.out.1 i h).1;omega
   have B:aq (λi=>an.heap.size<=i) an W:=(ao.to a.out.2.1).trans K (λi hi h=>absurd h (hno i hi));refine ap7 x _ fR gB _ W (B.cell n.out.2 (by have:=u.out.2;show¬an.heap.size<=_;omega)) ?_ vp;exact(j.out.2.2.2.1.aI (ao.trans d.out (b5.aI B)))
  .rintro e w' ⟨A,c,rfl,h1,_,y⟩;exact⟨A,c,aa,h1,y⟩);go_wp2_with (go_at_call 334;have k:=t.out;with_reducible refine k.mono ?_;clear k;rintro e g ⟨aK,c2,rfl,C,q⟩)
 have hg2:ao w g:=by
  have hno:∀i,i<an.heap.size->¬(ad l xs.length c1).ownBlock=ab i:=λi hi h=>by have:=(wi a.out.1 i h).1;omega
  exact ao.trans d.out (b5.aI ((ao.to a.out.2.1).trans q (λi hi h=>absurd h (hno i hi))))
 have hcw:g.cell? ⟨w.heap.size,0,af⟩=ab (ad gM ws.length ib):=by refine q.cell (a.out.2.1.cell n.out.1 (λh=>h)) (λh=>?_);have y:=(wi a.out.1 w.heap.size h).1;have Q:w.heap.size<an.heap.size:=u.out.1;omega
 have m:=hid (And.intro C (And.intro hg2 hcw));have O:(kept xs keep).length<=9223372036854775807:=eD (List.length_filter_le _ _) G;clear C q hg2 hcw t;generalize kept xs keep=L at*
 have H:Hid (aD ax 336 #[ad aK L.length c2,.func (.func 337) #[] #[ay (ab ⟨w.heap.size,0,af⟩)]] g λe w'=>e=aA (bh #[J R (o.getD 0),aj o.isSome])/\g=w'):=hid (by have h:=auf 337 #[ay (ab ⟨w.heap.size,0,af⟩)] (nV ws) aK c2 L g m.out.1 O amr (λx=>avu x w.heap.size gM ib ws g m.out.2.2 (j.out.2.1.aI m.out.2.1) HZ);rw[akg (f:=nV ws),I.out]at h;exact h);go_wp2_with (go_at_call 336;have k:=H.out;with_reducible refine k.mono ?_;clear k;rintro e U ⟨rfl,rfl⟩);go_ret3;exact⟨aa,m.out.2.1⟩
open Go.RowKit Go.MapKept
def Aw(out:List Int)(o:Option Int):List Int:=match o with
 |none=>out
 |some v=>out++[v]
structure xx (W:aN) (q4 da jN fS base b:Nat) (gM:Option Addr) (ib:Nat) (ws:List Int) (fR:Option Addr) (gB:Nat) (keep out:List Int) (la:aP):Prop where
 b1:W.cell? ⟨q4,0,af⟩=ab (ay (ab ⟨b,0,af⟩))
 c1:W.cell? ⟨da,0,af⟩=ab (ad gM ws.length ib)
 c2:W.cell? ⟨jN,0,af⟩=ab (ad fR keep.length gB)
 fG:W.heap[fS]?=ab (bf #[la] 82 (0,0))
 row:W.ownsRow base 3 1 la out.length (out.map (J R))
def xx.only{W c F q4 da jN fS base b gM ib ws fR gB keep out la}(h:xx W q4 da jN fS base b gM ib ws fR gB keep out la)(k:aq F W c)(a:∀i,F i->False):
 xx c q4 da jN fS base b gM ib ws fR gB keep out la:=
 ⟨k.cell h.b1 (λe=>a _ e),k.cell h.c1 (λe=>a _ e),k.cell h.c2 (λe=>a _ e),k.heap h.fG (λe=>a _ e),nn h.row k (λ_ _ e=>a _ e)⟩
def anx{a xl:aP}{base fS n}(hne:∀q,a.ownBlock=ab q->base<=q)(c:xl.ownBlock=a.ownBlock\/xl.ownBlock=ab n)(d:base<=n)(b:fS<base):xl.ownBlock≠ab fS:=aG
def auz (q4 da jN fS base b N:Nat) E F gM ib ws fR gB keep out la W (x:gV W F b N E) (D:cX W gM ws) (hk:cX W fR keep) (d:xx W q4 da jN fS base b gM ib ws fR gB keep out la)
 (hb:q4<fS/\da<fS/\jN<fS/\fS<base/\base<=W.heap.size) (HZ:ws.length<=9223372036854775807) (hN:out.length<=1048576) (vp:keep.length<=9223372036854775807) (eV:E.length<=1048576) xs (hx:kA E out xs) o (ho:jA (nV ws) (kept xs keep)=o):
 aD ax 301 #[ay (ab ⟨q4,0,af⟩),ay (ab ⟨da,0,af⟩),ay (ab ⟨fS,0,af⟩),ay (ab ⟨jN,0,af⟩)] W λe w'=>
  e=aA (bh #[aj o.isSome,aj (decide (0<xs.length))])/\
  aq (λi=>i=fS\/base<=i) W w'/\∃M,xx w' q4 da jN fS base b gM ib ws fR gB keep (Aw out o) M:=by
 obtain⟨n,r,rfl,A⟩:=yK d.row;have hc:=aq6 b N E F gM ib ws n r out fR gB keep W x D A hk HZ ae vp eV xs hx o ho _ aa;clear ho x D hk A hx;have w:=hid hc;have c:=hid d;obtain⟨K,z,hz0,hz1,hz2⟩:=info_parts z7;have k:=hid (And.intro z (And.intro hz0 (And.intro hz1 hz2)));have T:=d.b1;have U:=d.c1;have V:=d.c2;have L:=pr d.fG;clear hc d z hz0 hz1 hz2;generalize decide (0<xs.length)=O at*;go_enter func301,ntmps301;cases o with
 |none=>
  go_wp2_with (go_at_call 302;have g:=w.out;with_reducible refine g.mono ?_;clear g;rintro e w1 ⟨rfl,hg1⟩);go_ret2;exact⟨aa,ao.to hg1,_,c.out.only hg1 (λ_ h=>h)⟩
 |some v=>
  go_wp2_with (first
   |(go_at_call 302;have g:=w.out;with_reducible refine g.mono ?_;clear g;rintro e w1 ⟨rfl,hg1⟩;have X:=hg1.cell L (λh=>h);have hs1:=hg1.size;have u:=hid hg1;clear hg1)
   |(at_builtin;go_loud (refine JE _ aa (.tmp 19) (.tmp 21) 82 aa base 3 K _ 1 8 ik k.out.1 k.out.2.1 k.out.2.2.1 k.out.2.2.2 aa ae _ out.length (out.map (J R)) aa (nn c.out.row (ao.trans u.out (aq.alloc (F:=λ_=>False) _ _)) (λ_ _ h=>h)) _ 1 1 [J R v] aa aa (ES _ _ _) (by simp[wh]) (by grind[maxLen]) ae (by first|omega|(simp;omega)) ?_;intro xl f I y _ B;have S:fS<W.heap.size:=ae;have hne:∀q,(ad n out.length r).ownBlock=ab q->base<=q:=λq h=>(wi c.out.row q h).1;have G:aq (λi=>base<=i) (w1.alloc (bf #[J R v] 3)) f:=aq.of_grownBy y (λi e=>bJ (hne i e));have s:aq (λi=>base<=i) W f:=((ao.to u.out).trans (aq.alloc (F:=λi=>base<=i) _ _) (λ_ _ h=>h)).trans G (λ_ _ h=>h);have m:f.heap[fS]?=ab (bf #[ad n out.length r] 82 (0,0)):=s.heap c.out.fG ae;have C:xl.ownBlock≠ab fS:=anx hne B (by first|omega|(simp;omega)) ae;have Q:=free_of_one m;have P:=pr m;have hown:f.ownsRow base 3 1 xl (out.length+1) ((out++[v]).map (J R)):=aG;obtain⟨j,l,H,_⟩:=yK hown;obtain rfl:xl=ad j (out.length+1) l:=aG;have a:=hid (And.intro hown (And.intro s (And.intro m C)));clear hown I y B G s m C hne H)));go_ret2;refine⟨aa,((a.out.2.1.mono (λi _ h=>.inr h)).trans (aq.setCell (F:=λi=>i=fS\/base<=i) f (bJ aa) _) (λ_ _ h=>h)),ad j (out.length+1) l,?_⟩;have t:=aq.setCell (F:=λi=>i=fS) f (p:=⟨fS,0,af⟩) aa (ad j (out.length+1) l);exact⟨t.cell (a.out.2.1.cell c.out.b1 aG) aG,t.cell (a.out.2.1.cell c.out.c1 aG) aG,t.cell (a.out.2.1.cell c.out.c2 aG) aG,one_setCell a.out.2.2.1,by simpa [Aw]using ownsRow_setCell_other a.out.1 a.out.2.2.2 (ad j (out.length+1) l)⟩
theorem aeD{E ws keep out xs}(h:kQ E ws keep out)(hx:kA E out xs):kQ E ws keep (Aw out (jA (nV ws) (kept xs keep))):=by
 cases hb:jA (nV ws) (kept xs keep)with
 |none=>exact h
 |some v=>exact .snoc h hx hb
def afI(w:aN)(o:List Int)(r:Bool)(e:Ending)(w':aN):Prop:=
 ∃a b,e=aA (bh #[ad a (Cn r o).length b,aj r])/\cX w' a (Cn r o)/\(Cn r o).length<=b/\(∀k off,a=ab ⟨k,off,af⟩->w.heap.size<=k)/\ao w w'
def arW{w base v m xs}(h:w.ownsRow base 3 1 v m (xs.map (J R))):∃A c,v=ad A xs.length c/\cX w A xs/\xs.length<=c/\∀k off,A=ab ⟨k,off,af⟩->base<=k:=by
 have a:m=xs.length:=by simpa using h.1.symm
 subst a;have b:=h;rcases h.2 with⟨rfl,hz⟩|⟨g,cap,cur,rfl,hb,i,h1,d,e,f⟩;·grind[cX.nil]
 .grind[cX.lW]
def boxes w b gM ib ws fR gB keep:
 ao w ((((w.alloc (bf #[ay (ab ⟨b,0,af⟩)] 179)).alloc (bf #[ad gM ws.length ib] 82)).alloc (bf #[ad fR keep.length gB] 82)).alloc (bf #[ad af 0 0] 82))/\xx ((((w.alloc (bf #[ay (ab ⟨b,0,af⟩)] 179)).alloc (bf #[ad gM ws.length ib] 82)).alloc (bf #[ad fR keep.length gB] 82)).alloc (bf #[ad af 0 0] 82)) w.heap.size (w.heap.size+1) (w.heap.size+2) (w.heap.size+3) (w.heap.size+4) b gM ib ws fR gB keep [] (ad af 0 0)/\((((w.alloc (bf #[ay (ab ⟨b,0,af⟩)] 179)).alloc (bf #[ad gM ws.length ib] 82)).alloc (bf #[ad fR keep.length gB] 82)).alloc (bf #[ad af 0 0] 82)).heap.size=w.heap.size+4:=by
 have g1:=aq.alloc (F:=λ_=>False) w (bf #[ay (ab ⟨b,0,af⟩)] 179);have h1:=ff w (bf #[ay (ab ⟨b,0,af⟩)] 179);generalize j:w.alloc (bf #[ay (ab ⟨b,0,af⟩)] 179)=w1 at*;have k:w1.heap.size=w.heap.size+1:=by rw[<-j];simp
 have g2:=aq.alloc (F:=λ_=>False) w1 (bf #[ad gM ws.length ib] 82);have f:=ff w1 (bf #[ad gM ws.length ib] 82);generalize hw2:w1.alloc (bf #[ad gM ws.length ib] 82)=c at*;have l:c.heap.size=w.heap.size+2:=by rw[<-hw2];simp;omega
 have e:=aq.alloc (F:=λ_=>False) c (bf #[ad fR keep.length gB] 82);have g:=ff c (bf #[ad fR keep.length gB] 82);generalize hw3:c.alloc (bf #[ad fR keep.length gB] 82)=d at*;have m:d.heap.size=w.heap.size+3:=by rw[<-hw3];simp;omega
 have a:=aq.alloc (F:=λ_=>False) d (bf #[ad af 0 0] 82);have i:=ff d (bf #[ad af 0 0] 82);generalize hw4:d.alloc (bf #[ad af 0 0] 82)=o at*;have n:o.heap.size=w.heap.size+4:=by rw[<-hw4];simp;omega
 rw[k]at f;rw[l]at g;rw[m]at i;refine⟨ao.trans g1 (ao.trans g2 (ao.trans e a)),⟨?_,?_,?_,i,⟨aU,bJ ⟨aa,aU⟩⟩⟩,n⟩;·exact(ao.trans g2 (ao.trans e a)).cell (pr h1) (λh=>h)
 .exact(ao.trans e a).cell (pr f) (λh=>h)
 .exact a.cell (pr g) (λh=>h)
set_option maxHeartbeats 2000000 in
def akM (b N:Nat) E F gM ib ws fR gB keep w (z:gV w F b N E) (hw:cX w gM ws) (hk:cX w fR keep)
 (HZ:ws.length<=9223372036854775807) (vp:keep.length<=9223372036854775807) (eV:E.length<=1048576) (o xs) (hx:wx E ws keep o xs) r (hr:decide (xs=[])=r):
 aD ax 249 #[ay (ab ⟨b,0,af⟩),ad gM ws.length ib,ad fR keep.length gB] w (afI w o r):=by
 have fl:=z.small.2;have l:=hid (And.intro z (And.intro hw (And.intro hk (And.intro hx hr))));have C:=hid z.2.2;have vs:∀(L:Fn) (first cap:Array aP) (w:aN),(Instr.makeFunc L first cap).run ax w=.ok (.func L first cap) w:=λ_ _ _ _=>aa;have y:=hid (boxes w b gM ib ws fR gB keep);clear z hw hk hx hr;go_enter func249,ntmps249;go_wp2_with fail;go_at_call 301;clear vs;generalize (((w.alloc (bf #[ay (ab ⟨b,0,af⟩)] 179)).alloc (bf #[ad gM ws.length ib] 82)).alloc (bf #[ad fR keep.length gB] 82)).alloc (bf #[ad af 0 0] 82)=an at*
 have J:Hid (∀(W:aN) (out:List Int) (la:aP),aq (λi=>i=w.heap.size+3\/w.heap.size+4<=i) an W->xx W w.heap.size (w.heap.size+1) (w.heap.size+2) (w.heap.size+3) (w.heap.size+4) b gM ib ws fR gB keep out la->kQ E ws keep out->
  ∃cq q d,kA E out cq/\jA (nV ws) (kept cq keep)=q/\decide (0<cq.length)=d/\aD ax 301 #[ay (ab ⟨w.heap.size,0,af⟩),ay (ab ⟨w.heap.size+1,0,af⟩),ay (ab ⟨w.heap.size+3,0,af⟩),ay (ab ⟨w.heap.size+2,0,af⟩)] W λe w'=>
   e=aA (bh #[aj q.isSome,aj d])/\aq (λi=>i=w.heap.size+3\/w.heap.size+4<=i) an w'/\∃TY,xx w' w.heap.size (w.heap.size+1) (w.heap.size+2) (w.heap.size+3) (w.heap.size+4) b gM ib ws fR gB keep (Aw out q) TY):=hid (λW out la D j' hch=>by
  obtain⟨cq,p⟩:=GS C.out out;have hsz:=y.out.2.2;have hs:=D.size;have B:aq (λi=>w.heap.size+3<=i) w W:=(ao.to y.out.1).trans D (λi hi h=>ae);have f:ao w W:=B.mono (λi hi h=>ae);refine⟨cq,_,_,p,aa,aa,?_⟩;refine(auz _ _ _ _ _ b N E F gM ib ws fR gB _ _ la W (l.out.1.aI f) (l.out.2.1.aI f) (l.out.2.2.1.aI f) j' ⟨ae,ae,ae,ae,ae⟩ HZ (by have:=hch.length C.out;omega) vp eV cq p _ aa).mono ?_;rintro e w' ⟨rfl,h1,n⟩;exact⟨aa,D.trans h1 (λ_ _ h=>h),n⟩);obtain⟨cq,q,d,p,Y,V,m⟩:=J.out an [] _ (aq.refl _ _) y.out.2.1 .nil;refine m.mono ?_;clear m;rintro e w1 ⟨rfl,T,avf,R⟩;have g:=hid (And.intro T (And.intro R (And.intro p (And.intro Y (And.intro V (show kQ E ws keep []from .nil))))));clear T R p Y V;go_wp2_with fail;go_loopg [10,11] (2*N+2) (λgk ej iF wr=>∃(out s cq:List Int) (q:Option Int) (d:Bool) (la:aP),ej=aj q.isSome/\iF=aj d/\Hid (aq (λi=>i=w.heap.size+3\/w.heap.size+4<=i) an wr/\xx wr w.heap.size (w.heap.size+1) (w.heap.size+2) (w.heap.size+3) (w.heap.size+4) b gM ib ws fR gB keep out la/\out=Aw s q/\kQ E ws keep s/\kA E s cq/\jA (nV ws) (kept cq keep)=q/\decide (0<cq.length)=d)/\2*(N -out.length)+(if q.isSome then 1 else 0)<gk);case atStart=>exact⟨_,[],cq,q,d,avf,aa,aa,hid ⟨g.out.1,g.out.2.1,aa,.nil,g.out.2.2.1,g.out.2.2.2.1,g.out.2.2.2.2.1⟩,aG⟩
 case round=>
  obtain⟨out,s,azu,fQ,alz,la,rfl,rfl,a,Lm⟩:=hrel;have hch:kQ E ws keep out:=by rw[a.out.2.2.1,<-a.out.2.2.2.2.2.1];exact aeD a.out.2.2.2.1 a.out.2.2.2.2.1
  cases fQ with
  |some v=>
   obtain⟨av6,G,alA,abr,Z,X,m⟩:=J.out wr out la a.out.1 a.out.2.1 hch;have ac:=hid m;have H:=hid (And.intro abr (And.intro Z X));have BU:(Aw out G).length<=N:=(by grind[aeD]:kQ E ws keep (Aw out G)).length C.out;have I:=hid hch;clear m abr Z X hch;simp only[Option.isSome_some,if_true]at Lm;go_wp2_with (go_at_call 301;have K:=ac.out;with_reducible refine K.mono ?_;clear K;rintro e bN ⟨rfl,U,avg,S⟩);have u:=hid (And.intro U S);clear U S;cases G with
   |none=>
    go_roundg (2*(N -out.length)+1);case measure=>omega
    case rel=>exact⟨out,_,_,_,_,_,aa,aa,hid ⟨u.out.1,u.out.2,aa,I.out,H.out⟩,aU⟩
   |some v3=>
    simp only[Aw,List.length_append,List.length_singleton]at BU;go_roundg (2*(N -out.length));case measure=>omega
    case rel=>exact⟨out++[v3],out,av6,ab v3,alA,avg,aa,aa,hid ⟨u.out.1,u.out.2,aa,I.out,H.out⟩,aG⟩
  |none=>
   obtain⟨h1,n,h3,M,O,P,Q⟩:=a.out;obtain rfl:out=s:=h3;obtain⟨rfl,rfl⟩:=l.out.2.2.2.1.unique ⟨M,O,P⟩
   have cU:alz=!r:=by
    rw[<-Q,<-l.out.2.2.2.2];cases xs with
    |nil=>rfl
    |cons x t=>simp
   have B:aq (λi=>w.heap.size+3<=i) w wr:=(ao.to y.out.1).trans h1 (λi hi h=>ae);have f:ao w wr:=B.mono (λi hi h=>ae);have jL:=pr n.fG;obtain⟨A,c,rfl,hi,hc,hloc⟩:=arW n.row;have j:=hid (And.intro hi (And.intro hc (And.intro (λk off e=>eD ae (hloc k off e):∀k off,A=ab ⟨k,off,af⟩->w.heap.size<=k) f)));subst cU;clear hch h1 n M O P Q B f hi hc hloc a;cases r;·go_wp2;go_ret2;exact⟨af,0,aa,cX.nil,Nat.le_refl _,(λ_ _ h=>aG),j.out.2.2.2⟩
   .go_wp2;go_ret2;exact⟨A,c,aa,j.out.1,j.out.2.1,j.out.2.2.1,j.out.2.2.2⟩
end G
end Go.Proofs.YtcmhplknoglbkaaGreat
