/- Part 17 of the proof of TopConvertsSaid. -/
import Derived.Shelf.Bytes.SlSmallAll
import Derived.Test.YtcmhplknoglbkaaGreat0
import Derived.Test.YtcmhplknoglbkaaGreat4
import Derived.Test.YtcmhplknoglbkaaGreat6
import Derived.Test.YtcmhplknoglbkaaGreat16
set_option linter.all false
set_option maxRecDepth 100000
set_option maxHeartbeats 4000000
open Go.Proofs.Tryz
open Bool renaming false->au,true->aB
open Go renaming Calls->aD,undef->aZ,wpList_nil->ak,wp_region_lit->ar
open Go.Ending renaming returned->aA
open Go.IntKind renaming i64->R,u64->aH
open Go.Lib renaming bytesOf->FC
open Go.Proofs.Tryz renaming func135->af9,func210->agi,func218->UZ,func283->U8,ntmps135->agX,ntmps210->ag7,ntmps218->Vs,ntmps283->Vw,prog->ax,underlying22->dJ
open Go.Value renaming agg->av,bool->aj,int->J,pointer->ay,slice->ad,tuple->bh
open List renaming eq_nil_of_length_eq_zero->jH
open Nat renaming add_sub_cancel_left->tD,eq_zero_or_pos->lJ
open Option renaming none->af,some->ab
namespace Go.Proofs.YtcmhplknoglbkaaGreat
open Go.RowKit Go.MapKept
structure Rd where
 bs:List Int
 p:Nat
 bq:Int
 dj:Int
def lD(A:Option Addr)(c:Nat)(r:Rd):Array Value:=#[ad A r.bs.length c,J R (r.p:Int),J R r.bq,J R r.dj]
def xc(x c:Int):Int:=aH.wrap ((BitVec.ofInt 64 (aH.wrap (x*2^8))|||BitVec.ofInt 64 (aH.wrap c)).toNat:Int)
def mD(r:Rd)(k a:Int):Rd:=if r.bq=0/\¬k=0 then{r with bq:=k,dj:=a}else r
def aq0 A c bs w(l:bs.length<=140737488355328)(hb:bT w A bs):
 aD ax 134 #[ad A bs.length c] w λe w'=>∃B b d,e=aA (ay (ab ⟨B,0,af⟩))/\w.heap.size<=B/\aX w' B (lD b d ⟨bs,0,0,0⟩) 333/\e3 w.heap.size w' b d bs/\¬dV b B/\ao w w':=by
 go_enter func134,ntmps134;have a:=bg w;go_step;refine aF ?_;refine cK ?_;refine a7 (wI A c bs _ (hb.aI a.only) l) ?_;rintro e w1 ⟨f,k,rfl,hrow,g⟩;replace a:=a.k8 g hrow;refine bb ?_;refine v2 ?_;refine bO a (av _) (λm n a=>?_);refine bR ?_;go_wp2_with fail;go_ret;exact⟨_,f,k,aa,(a.fresh 0).2.2 _ aa|>.1,a.a1 0,Row.nS (a.fresh 1).row,λh=>a.ne (i:=1) (j:=0) aa aa bj _ h aa,a.only⟩
def ari w:
 aD ax 219 #[] w λe w'=>∃B,e=aA (.func (.func 286) #[] #[ay (ab ⟨B,0,af⟩)])/\w.heap.size<=B/\aX w' B #[J aH 0] 42/\ao w w':=by
 go_enter func219,ntmps219;have a:=bg w;go_step;refine aF ?_;refine dR ?_;refine bA a #[J aH 0] (λb w1 a=>?_);refine ba a 0 (J _ 0) (λc a=>?_);refine aF ?_;refine dQ ?_;go_wp2_with fail;go_ret;exact⟨_,aa,(a.fresh 0).2.2 _ aa|>.1,a.a1 0,a.only⟩
def arh B(x c)w(hx:aX w B #[J aH x] 42):
 aD ax 286 #[J .u8 c,ay (ab ⟨B,0,af⟩)] w λe w'=>e=aA (J aH (xc x c))/\aq (λb=>b=B) w w'/\aX w' B #[J aH (xc x c)] 42:=by
 go_enter func286,ntmps286;have a:=ai.start (t:=ah B _ 42) ⟨hx,λb e=>(show b=B from e)▸aX.lt hx⟩;go_step;refine aF ?_;refine dR ?_;refine pl a 0 0 ?_;refine pk (J aH (aH.wrap (x*2^8))) ?_;refine ag ?_;refine pk (J aH (aH.wrap c)) ?_;refine pk (J aH (xc x c)) ?_;refine ba a 0 (J _ _) (λw1 a=>?_);refine aF ?_;refine pl a 0 0 ?_;refine bR ?_;go_wp2_with fail;go_ret;exact⟨aa,a.only,a.a1 0⟩
def ata(B t:Nat)A c r(g a)w(f:aX w B (lD A c r) t):
 aD ax 283 #[ay (ab ⟨B,0,af⟩),J R g,J R a] w λe w'=>e=aA (bh #[])/\aq (λb=>b=B) w w'/\aX w' B (lD A c (mD r g a)) t:=by
 obtain⟨bs,p,bq,dj⟩:=r;have d:=ai.start (t:=ah B #[ad A bs.length c,J _ (p:Int),J _ bq,J _ dj] t) ⟨f,λb e=>(show b=B from e)▸aX.lt f⟩;clear f;by_cases i:bq=0
 .subst i;by_cases k:g=0
  .subst k;go_enter U8,Vw;go_step;refine aF ?_;refine v4 ?_;refine pl d 0 2 ?_;refine pk (aj aB) ?_;refine v2 ?_;refine pk (aj au) ?_;refine bR ?_;go_wp2_with fail;first|go_end0|refine bodyPost_ret (results_none rfl _ _ _) rfl ?_
   exact⟨aa,d.only,by rw[mD,if_neg aU];exact d.a1 0⟩
  .have l:=k;go_enter U8,Vw;go_step;refine aF ?_;refine v4 ?_;refine pl d 0 2 ?_;refine pk (aj aB) ?_;refine v2 ?_;refine aJ (aj aB) (by(go_simp;try simp[l])) ?_;refine ag ?_;refine aF ?_;refine v6 ?_;refine ba d 0 (av _) (λw1 d=>?_);refine ak ?_;go_wp2_with fail;first|go_end0|refine bodyPost_ret (results_none rfl _ _ _) rfl ?_
   exact⟨aa,d.only,by rw[mD,if_pos ⟨aa,l⟩];exact d.a1 0⟩
 .have j:=i;go_enter U8,Vw;go_step;refine aF ?_;refine v4 ?_;refine pl d 0 2 ?_;refine aJ (aj au) (by(go_simp;try simp[j])) ?_;refine ag ?_;iterate 2 refine ps ?_
  refine bR ?_;go_wp2_with fail;first|go_end0|refine bodyPost_ret (results_none rfl _ _ _) rfl ?_
  exact⟨aa,d.only,by rw[mD,if_neg (λh=>j h.1)];exact d.a1 0⟩
def adU(B t:Nat)A c r n w(b:Has w (ah B (lD A c r) t))(g:r.bq=0)(f:r.p+n<=r.bs.length)(hc:r.bs.length<=c)(d:r.bs.length<=140737488355328):
 aD ax 218 #[ay (ab ⟨B,0,af⟩),J R (n:Int)] w λe w'=>e=aA (bh #[ad (fF A c r.p 1) n (c -r.p),aj aB])/\Turned w w' (ah B (lD A c r) t) (ah B (lD A c {r with p:=r.p+n}) t):=by
 obtain⟨bs,p,bq,dj⟩:=r;obtain rfl:=g;replace b:Has w (ah B #[ad A bs.length c,J _ (p:Int),J _ 0,J _ dj] t):=b;replace f:p+n<=bs.length:=f;replace hc:bs.length<=c:=hc;replace d:bs.length<=140737488355328:=d;have i:p+n<=140737488355328:=ae;go_enter UZ,Vs;have a:=ai.start b;go_step;refine aF ?_;refine v2 ?_;refine oJ ?_;refine pl a 0 2 ?_;refine pk (aj au) ?_;refine cK ?_;refine cd (aj au) ?_;refine ih ?_;refine bP a [] (λ_ _=>aZ) (λ_ _=>emp) (λ_=>[]) (λ|4=>[0]|9=>[0]|_=>[]) (λ_=>[]) [0] (λh=>?_);refine ix ?_;refine dl 0 0 ?_;refine ix ?_;refine dl 0 1 ?_;refine aM _ (λ_ _ _=>pH 3 _ _ 3 aa _ _ ((bs.length:Int) -(p:Int)) aa aa ae ae ae) ?_;refine aM (aj au) (λ_ _ _=>by(go_simp;try omega)) ?_;refine aL ?_;refine bS λw1 a=>?_;refine jt ?_;refine pl a 0 1 ?_;refine ag ?_;refine pad _ _ ((p+n:Nat):Int) ?_;refine v2 ?_;refine ba a 0 (J _ _) (λj a=>?_);refine dh ?_;refine bP a [] (λ_ _=>aZ) (λ_ _=>emp) (λ_=>[]) (λ|3=>[0]|7=>[0]|13=>[0]|_=>[]) (λ_=>[]) [0] (λh=>?_);refine c7 ?_;refine dl 0 0 ?_;refine c7 ?_;refine dl 0 1 ?_;refine aL ?_;refine aM _ (λ_ _ _=>pH 3 _ _ 3 aa _ _ ((p:Nat):Int) aa aa ae ae ae) ?_;refine c7 ?_;refine dl 0 1 ?_;refine aM _ (λ_ _ _=>IA 22 5 1 _ _ _ aa dJ aw A _ c p _ n aa aa aa ae ae) ?_;refine br ?_;refine bS λk a=>?_;go_wp2_with fail;go_ret2;exact⟨aa,a.gj 0⟩
def pG(r:Rd)(n:Int):Rd:=if n<0 then mD r 2 r.p else mD r 8 r.bs.length
def MK(B t:Nat)A c r(b a)w(g:Has w (ah B (lD A c r) t)):
 aD ax 283 #[ay (ab ⟨B,0,af⟩),J R b,J R a] w λe w'=>e=aA (bh #[])/\Turned w w' (ah B (lD A c r) t) (ah B (lD A c (mD r b a)) t):=
 (ata B t A c r b a w g.1).mono (λ_ _ ⟨h1,d,f⟩=>⟨h1,vd d f⟩)
def adT(B t:Nat)A c r n w(b:Has w (ah B (lD A c r) t))(j:r.p<=r.bs.length)(f:r.bs.length<=140737488355328)(l:-1<=n/\n<=4611686018427387904)(g:r.bq≠0\/n<0\/(r.bs.length:Int)<r.p+n):
 aD ax 218 #[ay (ab ⟨B,0,af⟩),J R n] w λe w'=>e=aA (bh #[ad af 0 0,aj au])/\Turned w w' (ah B (lD A c r) t) (ah B (lD A c (pG r n)) t):=by
 obtain⟨bs,p,bq,dj⟩:=r;replace b:Has w (ah B #[ad A bs.length c,J _ (p:Int),J _ bq,J _ dj] t):=b;replace j:p<=bs.length:=j;replace f:bs.length<=140737488355328:=f;by_cases i:bq=0
 .subst i;replace g:n<0\/(bs.length:Int)<p+n:=g.resolve_left (λh=>h aa);go_enter UZ,Vs;have a:=ai.start b;go_step;refine aF ?_;refine v2 ?_;refine oJ ?_;refine pl a 0 2 ?_;refine pk (aj au) ?_;refine bR ?_;by_cases k:n<0
  .have hb:pG (⟨bs,p,0,dj⟩:Rd) n=mD (⟨bs,p,0,dj⟩:Rd) 2 p:=by grind[pG]
   refine b6 ?_;refine cd (aj aB) ?_;refine AF ?_;refine pl a 0 1 ?_;refine a7 (MK B t A c (⟨bs,p,0,dj⟩:Rd) 2 p _ (a.has 0)) ?_;rintro e w1 ⟨rfl,d⟩;replace a:=a.eG 0 d;refine bb ?_;refine aF ?_;refine dQ ?_;go_wp2_with fail;go_ret2;exact⟨aa,aG⟩
  .have hb:pG (⟨bs,p,0,dj⟩:Rd) n=mD (⟨bs,p,0,dj⟩:Rd) 8 bs.length:=by grind[pG]
   refine b6 ?_;refine cd (aj au) ?_;refine ih ?_;refine bP a [] (λ_ _=>aZ) (λ_ _=>emp) (λ_=>[]) (λ|4=>[0]|9=>[0]|_=>[]) (λ_=>[]) [0] (λm=>?_);refine ix ?_;refine dl 0 0 ?_;refine ix ?_;refine dl 0 1 ?_;refine aM _ (λ_ _ _=>pH 3 _ _ 3 aa _ _ ((bs.length:Int) -(p:Int)) aa aa ae ae ae) ?_;refine aM (aj aB) (λ_ _ _=>by(go_simp;try omega)) ?_;refine aL ?_;refine bS λo a=>?_;refine oJ ?_;refine pl a 0 0 ?_;refine ag ?_;refine a7 (MK B t A c (⟨bs,p,0,dj⟩:Rd) 8 _ _ (a.has 0)) ?_;rintro e q ⟨rfl,d⟩;replace a:=a.eG 0 d;refine bb ?_;refine aF ?_;refine dQ ?_;go_wp2_with fail;go_ret2;exact⟨aa,by first|exact a.gj 0|(rw[hb];exact a.gj 0)⟩
 .have hb:pG (⟨bs,p,bq,dj⟩:Rd) n=(⟨bs,p,bq,dj⟩:Rd):=by grind[pG,mD]
  go_enter UZ,Vs;have a:=ai.start b;go_step;refine aF ?_;refine v2 ?_;refine oJ ?_;refine pl a 0 2 ?_;refine aJ (aj aB) (by(go_simp;try simp[i])) ?_;refine ag ?_;refine aF ?_;refine dQ ?_;go_wp2_with fail;go_ret2;exact⟨aa,by first|exact a.gj 0|(rw[hb];exact a.gj 0)⟩
def ep(B:Nat)(A:Option Addr)(c:Nat)(r:Rd):bu:=both (ah B (lD A c r) 333) (cf A c r.bs)
def ur(l:List Int):Int:=l.foldl xc 0
theorem arf l x:ur (l++[x])=xc (ur l) x:=by simp[ur]
def wrap_u64 z:0<=aH.wrap z/\aH.wrap z<18446744073709551616:=by grind[IntKind.wrap,IntKind.bits,IntKind.signed]
theorem are(x c):0<=xc x c/\xc x c<18446744073709551616:=wrap_u64 _
theorem S7 l:0<=ur l/\ur l<18446744073709551616:=by
 have h:∀(l:List Int) (a:Int),0<=a/\a<18446744073709551616->0<=l.foldl xc a/\l.foldl xc a<18446744073709551616:=by
  intro l;induction l with
  |nil=>simp
  |cons x l b=>grind[are]
 exact h l 0 ae
def s5(r:Rd)(n:Nat):List Int:=(r.bs.drop r.p).take n
def atx B A c r s w(y:Has w (ep B A c r))(G:r.bq=0)(b:r.p+s<=r.bs.length)(hs1:1<=s/\s<=8)(d:r.bs.length<=140737488355328):
 aD ax 135 #[ay (ab ⟨B,0,af⟩),J R (s:Int)] w λe w'=>e=aA (J aH (ur (s5 r s)))/\Turned w w' (ep B A c r) (ep B A c {r with p:=r.p+s}):=by
 obtain⟨bs,p,bq,dj⟩:=r;obtain rfl:bq=0:=G;replace b:p+s<=bs.length:=b;replace d:bs.length<=140737488355328:=d;have hb0:=y.1.2.1;have hc:bs.length<=c:=hb0.2.2;have k:=bT.win hb0.1 hc (i:=p) (q:=p+s) b;rw[tD]at k;obtain⟨E,z,v,_⟩:=k aG;have t:=hid v;clear v k hb0
 have D:Hid (∀l W,ai w (ep B A c ⟨bs,p,0,dj⟩).c5 W l->∀j,l[j]?=ab (cf A c bs)->∀q,q<s->W.cell? ⟨E,z+q,af⟩=ab (J .u8 ((s5 ⟨bs,p,0,dj⟩ s)[q]?.getD 0))):=hid (λl W h j H q K=>by have h1:=bT.win (ai.at h j H).1 hc (i:=p) (q:=p+s) b;rw[tD]at h1;obtain⟨eS,fb,e,F⟩:=h1 aG;rw[t.out]at e;cases e;exact F q aG);go_enter af9,agX;have a:ai w (ep B A c ⟨bs,p,0,dj⟩).c5 w [ah B #[ad A bs.length c,J R (p:Int),J R 0,J R dj] 333,cf A c bs]:=(ai.start y).fi;go_upto_region 0 with fail;refine ar ?_;refine cK ?_;refine pk (aj au) ?_;refine b6 ?_;refine cd (aj au) ?_;refine v2 ?_;refine cd (aj au) ?_;refine AF ?_;refine a7 ((by have h:=adU B 333 A c (⟨bs,p,0,dj⟩:Rd) s _ (a.has 0) aa b hc d;rw[t.out]at h;exact h)) ?_;rintro e w1 ⟨rfl,f⟩;replace f:Turned _ _ _ (ah B #[ad A bs.length c,J R ((p+s:Nat):Int),J R 0,J R dj] 333):=f;replace a:=a.eG 0 f;refine Ul ?_;refine pk (aj au) ?_;refine afn ?_;refine a7 (ari _) ?_;rintro e M ⟨o,rfl,lo,hx,g⟩;replace a:=a.new _ (x3 g hx lo);refine bb ?_;refine ag ?_;refine aF ?_;refine v3 ?_;refine ak ?_;go_wp2_with fail;go_loopw [7,32] (λC n wr=>∃q:Nat,q<=s/\C=J aH (ur ((s5 ⟨bs,p,0,dj⟩ s).take q))/\n=J R q/\ai w (ep B A c ⟨bs,p,0,dj⟩).c5 wr [ah o #[J aH (ur ((s5 ⟨bs,p,0,dj⟩ s).take q))] 42,ah B #[ad A bs.length c,J R ((p+s:Nat):Int),J R 0,J R dj] 333,cf A c bs]) (λC n wr=>s -(intOf n).toNat);case atStart=>exact⟨0,ae,aa,aa,a.pick [0,1,2]⟩
 case round=>
  clear a;obtain⟨q,K,rfl,rfl,a⟩:=hrel;by_cases hlt:q<s
  .have I:(q:Int)<(s:Int):=ae;obtain⟨x,hx⟩:∃x,(s5 ⟨bs,p,0,dj⟩ s)[q]?=ab x:=⟨_,List.getElem?_eq_getElem (by grind[s5])⟩;have hcell:=D.out _ _ a 2 aa q hlt;rw[hx,Option.getD_some]at hcell;have u:Hid (ur ((s5 ⟨bs,p,0,dj⟩ s).take (q+1))=xc (ur ((s5 ⟨bs,p,0,dj⟩ s).take q)) x):=hid (by grind[List.take_add_one,arf]);clear hx;go_upto_region 12 with fail;refine ar ?_;refine aJ _ (cI 22 5 1 _ _ aa dJ aw _ _ _ _ _ ((z+q)) aa aa hlt ae) ?_;refine v2 ?_;refine jb ?_;refine a7 (arh o (ur ((s5 ⟨bs,p,0,dj⟩ s).take q)) x _ (a.a1 0)) ?_;rintro e N ⟨rfl,L,h1⟩;replace a:=a.eG 0 (vd L h1);refine bb ?_;refine dR ?_;refine pad (q:Int) 1 ((q+1:Nat):Int) ?_;refine bR ?_;go_wp2_with fail;go_roundw;case rel=>exact⟨q+1,ae,by rw[u.out],aa,by rw[u.out];exact a⟩
   case measure=>grind[intOf]
  .have I:¬(q:Int)<(s:Int):=ae;obtain rfl:q=s:=ae;have m:(s5 ⟨bs,p,0,dj⟩ q).take q=(s5 ⟨bs,p,0,dj⟩ q):=List.take_of_length_le (by grind[s5]);rw[m]at a;simp only[m];clear m;go_upto_region 15 with fail;refine ar ?_;refine dQ ?_;go_wp2_with fail;go_ret;exact⟨aa,(a.pick (l':=[ah B _ _,cf A c bs]) [1,2]).star.gj 0⟩
def qt(r:Rd):Prop:=r.p<=r.bs.length/\r.bs.length<=140737488355328
def k'(r:Rd)(s:Nat):Int×Rd:=if r.bq=0/\r.p+s<=r.bs.length then(ur (s5 r s),{r with p:=r.p+s})else(0,pG r s)
theorem GY r(k a):(mD r k a).bs=r.bs/\(mD r k a).p=r.p:=by grind[mD]
theorem Kw r n:(pG r n).bs=r.bs/\(pG r n).p=r.p:=by grind[pG,GY]
theorem M4{r}(h:qt r)s:qt (k' r s).2:=by grind[k',qt,Kw]
def IK r s:0<=(k' r s).1/\(k' r s).1<18446744073709551616:=by
 unfold k';split;·exact S7 _
 .simp
def p1(r:Rd):Int×Rd:=if(k' r 8).1>4611686018427387903 then(0,mD (k' r 8).2 2 r.p)else k' r 8
def ab5{r}(h:qt r):qt (p1 r).2:=by grind[p1,qt,GY,M4]
def ab6 r:0<=(p1 r).1/\(p1 r).1<=4611686018427387903:=by
 unfold p1;have:=IK r 8;split;·simp
 .omega
def Iy B A c r(s:Nat)w(g:Has w (ep B A c r))(b:qt r)(hs1:1<=s/\s<=8):
 aD ax 135 #[ay (ab ⟨B,0,af⟩),J R (s:Int)] w λe w'=>e=aA (J aH (k' r s).1)/\Turned w w' (ep B A c r) (ep B A c (k' r s).2):=by
 by_cases d:r.bq=0/\r.p+s<=r.bs.length;·refine(atx B A c r s w g d.1 d.2 hs1 b.2).mono (λe w' h=>?_);grind[k']
 have b9:k' r s=(0,pG r s):=by grind[k']
 rw[b9];clear b9;have f:r.bq≠0\/(s:Int)<0\/(r.bs.length:Int)<r.p+(s:Int):=ae;clear d;have j:=hid (λW (h:Has W (ah B (lD A c r) 333))=>adT B 333 A c r s W h b.1 b.2 ae f);have i:=hid (Kw r s).1;clear f b;go_enter af9,agX;have a:ai w (ep B A c r).c5 w [ah B (lD A c r) 333,cf A c r.bs]:=(ai.start g).fi;go_upto_region 0 with fail;refine ar ?_;refine cK ?_;refine pk (aj au) ?_;refine b6 ?_;refine cd (aj au) ?_;refine v2 ?_;refine cd (aj au) ?_;refine AF ?_;refine a7 (j.out _ (a.has 0)) ?_;rintro e w1 ⟨rfl,k⟩;replace a:=a.eG 0 k;refine Ul ?_;refine pk (aj aB) ?_;refine aF ?_;refine ag ?_;refine ak ?_;go_wp2_with fail;go_ret;exact⟨aa,(by have h:=(a.pick (l':=[ah B (lD A c (pG r s)) 333,cf A c r.bs]) [0,1]).star;unfold ep;rw[i.out];exact ai.gj (s:=_) h 0)⟩
def ai.rd{an w:World}{FX:Nat->Prop}{l:List bu}{B c:Nat}{A:Option Addr}{r:Rd}(h:ai an FX w l)(i:Nat)(hi:l[i]?=ab (ep B A c r):=by rfl):aX w B (lD A c r) 333:=(h.at i hi).1
def atb B A c r(b a)w(i:Has w (ep B A c r)):
 aD ax 283 #[ay (ab ⟨B,0,af⟩),J R b,J R a] w λe w'=>e=aA (bh #[])/\Turned w w' (ep B A c r) (ep B A c (mD r b a)):=by
 have d:ai w (ep B A c r).c5 w [ah B (lD A c r) 333,cf A c r.bs]:=(ai.start i).fi;refine(MK B 333 A c r b a w (d.has 0)).mono (λe w' ⟨h1,f⟩=>⟨h1,?_⟩);have h:=(d.yV f).star;have e:=(GY r b a).1;have g:ai w (ep B A c r).c5 w' [ep B A c (mD r b a)]:=by grind[ep]
 exact g.gj 0
def adN B A c r w(u:Has w (ep B A c r))(m:qt r):
 aD ax 211 #[ay (ab ⟨B,0,af⟩)] w λe w'=>e=aA (J R (p1 r).1)/\Turned w w' (ep B A c r) (ep B A c (p1 r).2):=by
 have j:=hid (λW (h:Has W (ep B A c r))=>Iy B A c r 8 W h m ae);have d:=hid (IK r 8);have C:r.p<=140737488355328:=by grind[qt]
 obtain⟨v,b,i⟩:∃v b,k' r 8=(v,b):=⟨_,_,aa⟩;rw[i]at d;obtain⟨x,f,hx,bD,b9⟩:∃x f,p1 r=(x,f)/\(v>4611686018427387903->x=0/\f=mD b 2 r.p)/\(¬v>4611686018427387903->v=x/\b=f):=by grind[p1]
 rw[hx];have o:=hid bD;have q:=hid b9;have s:Hid (∀W,Has W (ep B A c r)->aD ax 135 #[ay (ab ⟨B,0,af⟩),J R 8] W λe w'=>e=aA (J aH v)/\Turned W w' (ep B A c r) (ep B A c b)):=hid (λW h=>by have l:=j.out W h;rw[i]at l;exact l);clear j bD b9 i hx m;have hv0:=d.out.1;have y:=d.out.2;clear d;simp only at hv0 y;go_enter func211,ntmps211;have a:ai w (ep B A c r).c5 w [ep B A c r]:=ai.start u;go_upto_region 0 with fail;refine ar ?_;refine cK ?_;refine pk (aj au) ?_;refine oJ ?_;refine aJ (J R (r.p:Int)) (fz (B:=B) (k:=1) (t:=333) (cs:=lD A c r) aa aa (ai.rd a 0) aa aw) ?_;refine cK ?_;refine a7 (s.out _ (a.has 0)) ?_;rintro e w1 ⟨rfl,g⟩;replace a:=a.eG 0 g;refine Fu ?_;by_cases n:v>4611686018427387903;·obtain⟨rfl,rfl⟩:=o.out n;refine b6 ?_;refine cd (aj aB) ?_;refine oJ ?_;refine a7 (atb B A c b 2 r.p _ (a.has 0)) ?_;rintro e D ⟨rfl,g⟩;replace a:=a.eG 0 g;refine bb ?_;refine aF ?_;refine ag ?_;refine ak ?_;go_wp2_with fail;go_ret;exact⟨aa,a.gj 0⟩
 .obtain⟨rfl,rfl⟩:=q.out n;refine b6 ?_;refine cd (aj au) ?_;refine b6 ?_;refine aJ (J R v) (by(have z:R.wrap v=v:=IntWalk.i64_in _ ⟨ae,ae⟩;go_simp;try rw[z])) ?_;refine bR ?_;go_wp2_with fail;go_ret;exact⟨aa,a.gj 0⟩
def atc B A c r w(b:Has w (ep B A c r)):
 aD ax 212 #[ay (ab ⟨B,0,af⟩)] w λe w'=>e=aA (av #[J R r.bq,J R r.dj])/\ao w w':=by
 go_enter func212,ntmps212;have a:=bg w;have hr:aX w B (lD A c r) 333:=b.1.1;go_upto_region 0 with fail;refine ar ?_;refine bA a #[J R 0,J R 0] (λd w1 a=>?_);refine b6 ?_;refine pk (aj au) ?_;refine oJ ?_;refine aJ (av #[J R r.bq,J R r.dj]) (mg (cs':=#[J R r.bq,J R r.dj]) aa aa (aX.aI hr a.only) aw (of_decide_eq_true aw) aw aw) ?_;refine ba a 0 (av #[J R r.bq,J R r.dj]) (λf a=>?_);refine ak ?_;go_wp2_with fail;refine bodyPost_ret (v:=_) (results_cell_row aa _ _ _ _ _ _ _ aa (a.a1 0) Tryz.underlying49 aa aw) aa (⟨aa,a.only⟩)
def bT.XU{w A xs}(h:bT w A xs):Lib.BytesIn w A xs.length xs:=λa=>by obtain⟨b,o,e,hc⟩:=h a;grind
def preB(xs cq:List Int):Bool:=Lib.hasPrefix (FC xs) (FC cq)
def an7 b c1 xs aK c2 cq w(h1:bT w b xs)(d:bT w aK cq)(hc:xs.length<=c1):
 aD ax 282 #[ad b xs.length c1,ad aK cq.length c2] w λe w'=>e=aA (aj (preB xs cq))/\w'=w:=by
 rcases lJ cq.length with a|a;·have h:=Any.bytes_HasPrefix_e2 Tryz.SN b aK xs.length c1 c2 w;rw[a];obtain rfl:cq=[]:=jH a;exact h
 .rcases lJ xs.length with c|c
  .have h:=Any.bytes_HasPrefix_e1 Tryz.SN b aK c1 cq.length c2 a w;rw[c];obtain rfl:xs=[]:=jH c;refine h.mono (λe w' ⟨f,g⟩=>⟨f.trans ?_,g⟩);cases cq with
   |nil=>omega
   |cons y cq=>rfl
  .obtain⟨eS,fb,rfl,i⟩:=h1.XU.at c;obtain⟨eZ,k,rfl,j⟩:=d.XU.at a;exact Any.bytes_HasPrefix Tryz.SN eS fb _ c1 eZ k _ c2 xs cq w aa aa hc i j
def rJ(r:Rd)(m:List Int)(a:Int):Bool×Rd:=
 if r.bq=0 then
  if preB m ((r.bs.drop r.p).take (min m.length (r.bs.length -r.p)))=aB then
   if r.p+m.length<=r.bs.length then(aB,{r with p:=r.p+m.length})else(au,pG r m.length)
  else(au,mD r a r.p)
 else(au,r)
def amR{r}(h:qt r)m a:qt (rJ r m a).2:=by grind[rJ,qt,Kw,GY]
def as9 B A c r o u m f w(C:Has w (ep B A c r))(y:qt r)(N:bT w o m)(hcm:m.length<=u)(hne:∀b,dV o b->¬(ep B A c r).c5 b)(T:m.length<=1048576):
 aD ax 210 #[ay (ab ⟨B,0,af⟩),ad o m.length u,J R f] w λe w'=>e=aA (aj (rJ r m f).1)/\Turned w w' (ep B A c r) (ep B A c (rJ r m f).2):=by
 obtain⟨bs,p,bq,dj⟩:=r;replace y:p<=bs.length/\bs.length<=140737488355328:=y;obtain⟨O,F⟩:=y;by_cases G:bq=0
 .subst G;obtain⟨k,I⟩:=ex (min m.length (bs.length -p));have S:k<=bs.length -p:=ae;have H:min (m.length:Int) ((bs.length -p:Nat):Int)=(k:Int):=ae;have D:=hid H;have hc:bs.length<=c:=C.1.2.1.2.2;obtain⟨iL,K⟩:=ex (preB m ((bs.drop p).take k));have v:=hid I;have x:=hid K;have L:Hid (∀W,aq (ep B A c (⟨bs,p,0,dj⟩:Rd)).c5 w W->bT W o m):=hid (λW g=>N.only g (λb off e=>hne b ⟨off,af,e⟩))
  have E:Hid (∀W,aq (ep B A c (⟨bs,p,0,dj⟩:Rd)).c5 w W->∀l j,ai w (ep B A c (⟨bs,p,0,dj⟩:Rd)).c5 W l->l[j]?=ab (cf A c bs)->aD ax 282 #[ad o m.length u,ad (fF A c p 1) k (c -p)] W λe w'=>e=aA (aj iL)/\w'=W):=hid (λW g l j h M=>by have h1:=bT.win (ai.at h j M).1 hc (i:=p) (q:=p+k) ae;rw[tD]at h1;have Q:=an7 o u m _ (c -p) _ W (L.out W g) h1 hcm;grind);clear H I K;go_enter agi,ag7;have a:ai w (ep B A c ⟨bs,p,0,dj⟩).c5 w [ah B #[ad A bs.length c,J R (p:Int),J R 0,J R dj] 333,cf A c bs]:=(ai.start C).fi;go_upto_region 0 with fail;refine ar ?_;refine cK ?_;refine pk (aj au) ?_;refine v6 ?_;refine pl a 0 2 ?_;refine pk (aj au) ?_;refine pk (aj au) ?_;refine dh ?_;refine bP a [] (λ_ _=>aZ) (λ_ _=>emp) (λ_=>[]) (λ|4=>[0]|9=>[0]|_=>[]) (λ_=>[]) [0,1] (λP=>?_);refine ix ?_;refine dl 0 0 ?_;refine ix ?_;refine dl 0 1 ?_;refine aM _ (λ_ _ _=>Au 22 5 1 _ _ aa dJ aw A _ c p (bs.length -p) aa aa ae ae) ?_;refine aL ?_;refine bS λw1 a=>?_;cases iL with
  |false=>
   refine aF ?_;refine v6 ?_;refine aJ (J R (k:Int)) (by(have h:=D.out;go_simp;try rw[h])) ?_;refine aJ _ (qV 22 5 1 _ _ aa dJ aw _ _ _ k aa aa ae) ?_;refine a7 (E.out _ a.only _ 1 a aa) ?_;rintro e U ⟨rfl,rfl⟩;refine bb ?_;refine pk (aj aB) ?_;refine ak ?_;have d:rJ (⟨bs,p,0,dj⟩:Rd) m f=(au,mD (⟨bs,p,0,dj⟩:Rd) f p):=by unfold rJ;rw[if_pos aa];show(if preB m ((bs.drop p).take (min m.length (bs.length -p)))=aB then _ else _)=_;rw[v.out,x.out];rfl
   have n:=hid d;clear d;refine dh ?_;refine bP a [9] (λi _=>match i with|9=>bh #[]|_=>aZ) (λ_=>λ|9=>ah B (lD A c (mD (⟨bs,p,0,dj⟩:Rd) f p)) 333|_=>emp) (λ|9=>[0]|_=>[]) (λ|8=>[0]|_=>[]) (λ_=>[]) [1,11] (λP=>?_);refine CM ?_;refine dl 0 1 ?_;refine df (λwl Fr a=>(MK B 333 A c (⟨bs,p,0,dj⟩:Rd) f p _ (a.has 0)).mono ?_) ?_;·rintro e dn ⟨rfl,t⟩;exact⟨{},aa,a.yV t⟩
   refine bS λV a=>?_;refine aF ?_;refine ag ?_;refine ak ?_;go_wp2_with fail;go_ret;exact by rw[n.out];refine⟨aa,?_⟩;have h:=(a.pick (l':=[ah B (lD A c (mD (⟨bs,p,0,dj⟩:Rd) f p)) 333,cf A c bs]) [1,0]).star;unfold ep;rw[(GY _ _ _).1];exact ai.gj (s:=_) h 0
  |true=>
   refine aF ?_;refine v6 ?_;refine aJ (J R (k:Int)) (by(have h:=D.out;go_simp;try rw[h])) ?_;refine aJ _ (qV 22 5 1 _ _ aa dJ aw _ _ _ k aa aa ae) ?_;refine a7 (E.out _ a.only _ 1 a aa) ?_;rintro e X ⟨rfl,rfl⟩;refine bb ?_;refine pk (aj au) ?_;refine ak ?_;by_cases z:p+m.length<=bs.length
   .have d:rJ (⟨bs,p,0,dj⟩:Rd) m f=(aB,⟨bs,p+m.length,0,dj⟩):=by unfold rJ;rw[if_pos aa];show(if preB m ((bs.drop p).take (min m.length (bs.length -p)))=aB then _ else _)=_;rw[v.out,x.out,if_pos aa,if_pos z]
    have n:=hid d;clear d;refine aF ?_;refine v5 ?_;refine a7 (adU B 333 A c (⟨bs,p,0,dj⟩:Rd) _ _ (a.has 0) aa z hc F) ?_;rintro e Y ⟨rfl,t⟩;replace a:=a.eG 0 t;refine bb ?_;refine v5 ?_;refine aF ?_;refine dQ ?_;go_wp2_with fail;go_ret;exact by rw[n.out];refine⟨aa,?_⟩;have h:=(a.pick (l':=[ah B (lD A c ⟨bs,p+m.length,0,dj⟩) 333,cf A c bs]) [0,1]).star;exact ai.gj (s:=_) h 0
   .have d:rJ (⟨bs,p,0,dj⟩:Rd) m f=(au,pG (⟨bs,p,0,dj⟩:Rd) m.length):=by unfold rJ;rw[if_pos aa];show(if preB m ((bs.drop p).take (min m.length (bs.length -p)))=aB then _ else _)=_;rw[v.out,x.out,if_pos aa,if_neg z]
    have n:=hid d;clear d;refine aF ?_;refine v5 ?_;refine a7 (adT B 333 A c (⟨bs,p,0,dj⟩:Rd) m.length _ (a.has 0) O F ae (.inr (.inr aG))) ?_;rintro e Z ⟨rfl,t⟩;replace a:=a.eG 0 t;refine bb ?_;refine v5 ?_;refine aF ?_;refine dQ ?_;go_wp2_with fail;go_ret;exact by rw[n.out];refine⟨aa,?_⟩;have h:=(a.pick (l':=[ah B (lD A c (pG (⟨bs,p,0,dj⟩:Rd) m.length)) 333,cf A c bs]) [0,1]).star;unfold ep;rw[(Kw _ _).1];exact ai.gj (s:=_) h 0
 .have d:rJ ⟨bs,p,bq,dj⟩ m f=(au,⟨bs,p,bq,dj⟩):=by grind[rJ]
  have n:=hid d;clear d;go_enter agi,ag7;have a:ai w (ep B A c ⟨bs,p,bq,dj⟩).c5 w [ah B #[ad A bs.length c,J R (p:Int),J R bq,J R dj] 333,cf A c bs]:=(ai.start C).fi;go_upto_region 0 with fail;refine ar ?_;refine cK ?_;refine pk (aj au) ?_;refine v6 ?_;refine pl a 0 2 ?_;refine aJ (aj aB) (by(go_simp;try simp[G])) ?_;refine pk (aj aB) ?_;refine aF ?_;refine ag ?_;refine ak ?_;go_wp2_with fail;go_ret;exact by rw[n.out];exact⟨aa,ai.gj (s:=_) a.star 0⟩
end Go.Proofs.YtcmhplknoglbkaaGreat
