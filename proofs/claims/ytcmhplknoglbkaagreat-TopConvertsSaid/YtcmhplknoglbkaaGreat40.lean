/- Part 40 of the proof of TopConvertsSaid. -/
import Derived.Recover
import Derived.Test.YtcmhplknoglbkaaGreat0
import Derived.Test.YtcmhplknoglbkaaGreat6
import Derived.Test.YtcmhplknoglbkaaGreat37
import Derived.Test.YtcmhplknoglbkaaGreat39
set_option linter.all false
set_option maxRecDepth 100000
set_option maxHeartbeats 4000000
open Go.Proofs.Tryz
open Bool renaming false->au,true->aB
open Decidable renaming of_not_not->CS
open Go renaming Calls->aD,leaves_cons->OS,undef->aZ,wpList_nil->ak,wp_region_lit->ar
open Go.Ending renaming returned->aA
open Go.Exit renaming thenS->afP
open Go.IntKind renaming i64->R
open Go.Operand renaming tmp->bc
open Go.Proofs.Tryz renaming func223->ago,prog->ax,results223->ahw,underlying22->dJ,underlying24->eB,underlying73->fX
open Go.Proofs renaming intOf->cg
open Go.RowKit renaming Hid->aE
open Go.Value renaming agg->av,bool->aj,int->J,pointer->ay,slice->ad,tuple->bh
open Int renaming eq_ofNat_of_zero_le->tA,toNat_natCast->Dq
open List renaming getElem?_eq_getElem->cm,mem_of_getElem?->cM,mem_of_mem_take->Ba,take_add_one->fv,take_length->il
open Nat renaming zero_le->cQ
open Option renaming none->af,some->ab
namespace Go.Proofs.YtcmhplknoglbkaaGreat
section
open Go.RowKit Go.MapKept
def akA B w:
 CallsD ax 223 #[ay (ab ⟨B,0,af⟩)] .returning w λe c w'=>e=aA (bh #[])/\c=.returning/\w'=w:=by
 refine callsD_of_wpS ago rfl λa cs b=>?_;apply wpS_seq;apply wpS_region;simp[wpOpsS,go_sem,recoverD,b,afP];refine wpS_of_wp ?_;go_wp2;cases a;simp_all [bodyPostS,results,ahw]
def akz B bq v w(hb:aX w B #[v] 47):
 CallsD ax 223 #[ay (ab ⟨B,0,af⟩)] (.panicking (tL bq)) w λe g w'=>e=aA (bh #[])/\g=.panicking [{v:=.iface 47 (J R bq),recovered:=aB}]/\Turned w w' (ah B #[v] 47) (ah B #[J R bq] 47):=by
 refine callsD_of_wpS ago rfl λc cs f=>?_;apply wpS_seq;apply wpS_region;simp[wpOpsS,go_sem,recoverD,f,tL,ntmps223,afP];refine wpS_of_wp ?_;show Code.wp _ _ _ {tmps:=#[ay (ab ⟨B,0,af⟩),aZ,aZ,aZ,.iface 47 (J R bq),aZ,aZ,aZ,aZ,aZ,aZ],defers:=[]} w;have a:=ai.start (t:=ah B #[v] 47) ⟨hb,λb h=>by have d:b=B:=h;rw[d];exact aX.lt hb⟩;go_upto_region 3 with fail;refine ar ?_;refine aJ (aj au) (by(go_simp)) ?_;refine ak ?_;go_upto_region 5 with fail;refine ar ?_;refine pk (bh #[J R bq,aj aB]) ?_;refine v2 ?_;refine ak ?_;go_upto_region 6 with fail;refine ar ?_;refine ag ?_;refine ak ?_;go_upto_region 7 with fail;refine ar ?_;refine ag ?_;refine ba a 0 (J R bq) (λw1 a=>?_);refine ak ?_;go_wp2_with fail;have i:=a.gj 0;cases c;simp_all [bodyPostS,results,ahw]
section
variable {P:Program} {ops:Array Oper} {Q:Exit->Act->World->Prop} {rest:List Oper} {o:Oper} {a bz:Act} {w:World}
def Tj(d:Deferred)(hr:(execOp a.eval o).run P w=.ok (.defer d) w)(h:wpList P ops Q rest bz w)(c:Region.wanted o (yielded ops a.tmps)=true:=by kernel_rfl)(b:{a with defers:=d::a.defers}.put o.dst aZ=bz:=by((try simp only[Act.put,List.setIfInBounds_toArray,List.set_cons_zero,List.set_cons_succ]);rfl)):wpList P ops Q (o::rest) a w:=by subst b;unfold wpList;rw[if_pos c];refine .inl ?_;unfold Oper.wp;rw[hr];exact h
end
def M1 (g:Nat) lb bq (t F) (Q:bu->Prop) (an w) FX (n:∀args w,(callFunc g args).run ax w=.ok (.enter g args) w)
 (hf:∀W F,ai an FX W [t,F]->aD ax g lb W λe w'=>e=rI bq (bh #[])/\∃b,Q b/\ai an FX w' [b,F]) (a:ai an FX w [t,F]):
 aD ax 141 #[.func (.func g) lb #[]] w λe w'=>e=aA (J R bq)/\∃b,Q b/\ai an FX w' [b,F]:=by
 have l:=hid hf;have k:=hid n;clear hf n;go_enter_defers func141,ntmps141;go_upto_region 0 with fail;refine ar ?_;refine bA a #[J R 0] (λi w1 a=>?_);refine b6 ?_;refine Tj {target:=.fn (.func 223) #[ay (ab ⟨i,0,af⟩)],args:=#[]} aw ?_;refine ak ?_;by_cases hz:bq=0;·have m:=hid hz;clear hz;refine aF ?_;refine ag ?_;have c:=(a.pk [1,0,2]).t1;refine a7 ((l.out _ _ c)) ?_ (hr:=by(first|(go_simp;done)|(go_simp;exact k.out _ _)));rintro e o ⟨d,b,j,a⟩;clear c;rw[m.out]at d;subst d;replace a:=a.dc;refine bb ?_;refine aF ?_;refine ba a 1 (J R 0) (λu a=>?_);refine ak ?_;go_wp2_with fail;refine OS (f:=223) (args:=#[ay (ab ⟨i,0,af⟩)]) aU aT ?_;refine(akA _ _).mono ?_;rintro e s o ⟨rfl,rfl,rfl⟩;exact⟨_,E8 aa aa (a.a1 1) aw,by rw[m.out],b,j,a.pick [0,2]⟩
 .have p:=hid hz;clear hz;refine aF ?_;refine ag ?_;have c:=(a.pk [1,0,2]).t1;refine Tm (ch:=tL bq) ((l.out _ _ c).mono λe w' ⟨d,h⟩=>⟨d.trans (tU p.out _),h⟩) (λv q=>?_) (hr:=by(first|(go_simp;done)|(go_simp;exact k.out _ _)));clear c a;obtain⟨b,j,a⟩:=q;replace a:=a.dc;refine OS (f:=223) (args:=#[ay (ab ⟨i,0,af⟩)]) aU aT ?_;refine(akz _ bq _ _ (a.a1 1)).mono ?_;rintro e s o ⟨rfl,rfl,r⟩;replace a:=a.eG 1 r;exact⟨_,E8 aa aa (a.a1 1) aw,aa,b,j,a.pick [0,2]⟩
end
open Go.RowKit Go.MapKept
structure pe where
 st:Int
 nx:Nat
 bE:Bool
 j:oN
 d:dM
def iZ(E:pd)(s:pe):Int×pe:=
 if s.st=2 then(0,s)
 else if s.bE=aB then
  if(j0 s.d s.j.last.off.toNat s.j.last.data).1=0 then(0,⟨1,s.nx+1,au,s.j,(j0 s.d s.j.last.off.toNat s.j.last.data).2⟩)
  else((j0 s.d s.j.last.off.toNat s.j.last.data).1,{s with d:=(j0 s.d s.j.last.off.toNat s.j.last.data).2})
 else match(ey E.bd E.ms)[s.nx]? with
  |none=>if(ov E s.d s.j.next.toNat s.j).1=0 then(0,{s with st:=2,j:=(ov E s.d s.j.next.toNat s.j).2.1,d:=(ov E s.d s.j.next.toNat s.j).2.2})
   else((ov E s.d s.j.next.toNat s.j).1,{s with j:=(ov E s.d s.j.next.toNat s.j).2.1,d:=(ov E s.d s.j.next.toNat s.j).2.2})
  |some bF=>if(lO s.d E.first E.bd E.id s.j.next.toNat s.nx bF.to.toNat s.j (kG s.d bF)).1=0 then(0,⟨1,s.nx+1,au,(lO s.d E.first E.bd E.id s.j.next.toNat s.nx bF.to.toNat s.j (kG s.d bF)).2.1,(lO s.d E.first E.bd E.id s.j.next.toNat s.nx bF.to.toNat s.j (kG s.d bF)).2.2⟩)
   else((lO s.d E.first E.bd E.id s.j.next.toNat s.nx bF.to.toNat s.j (kG s.d bF)).1,{s with j:=(lO s.d E.first E.bd E.id s.j.next.toNat s.nx bF.to.toNat s.j (kG s.d bF)).2.1,d:=(lO s.d E.first E.bd E.id s.j.next.toNat s.nx bF.to.toNat s.j (kG s.d bF)).2.2})
structure CT (E:pd) (d:dM):Prop where
 eS:1<=E.bd
 eZ:E.bd<=65536
 p8:nC E.o E.n E.ms
 old:E.o<=d.bytes.length
 new:E.n<=d.bytes.length
 en:(ey E.bd E.ms).length<=1048576
 id:E.id<18446744073709551616
 ch:∀bF∈ey E.bd E.ms,∃t:Nat,Fz d E.bd bF t/\(bF.k=1->bF.n<=(E.bd:Int))
structure rz (E:pd) (s:pe):Prop where
 e:CT E s.d
 j:kk s.d E.first E.bd
 up:s.d.down=au
 en:s.d.cache.length<=1000000000
 next:0<=s.j.next/\s.j.next<18446744073709551616
 nx:s.nx<=(ey E.bd E.ms).length
 bE:s.bE=aB->s.st≠2->s.j.has=aB/\0<=s.j.last.off/\s.j.last.off.toNat+s.j.last.data.length<=s.d.bytes.length/\s.nx<(ey E.bd E.ms).length
def fy(E:pd)(b a:bu)(pk:Int)(s:pe)(A:Option Addr)(c:Nat)(m:nu):bu:=bQ [ct E pk s.st (s.nx:Int) s.bE,cV E s.j A c,aO E.B m s.d,b,a]
def gF(E:pd)(d b:bu)(a:Int)(s:pe)(t:bu):Prop:=∃pk A c m,pk<=max a (E.bd:Int)/\t=fy E d b pk s A c m
def gF.mk{E d b a pk s A c m}(h:pk<=max a (E.bd:Int)):gF E d b a s (fy E d b pk s A c m):=⟨pk,A,c,m,h,aa⟩
def x0(E:pd)(s:pe):Nat:=if s.bE=aB then 144 else if s.nx=(ey E.bd E.ms).length then 145 else 143
def ajA E(f g)pk s A c m(an W)FX F(y:ss f E.p E.bd E.ms)(h:rz E s)(hst:s.st≠2)(L:ai an FX W [fy E f g pk s A c m,F]):
 aD ax (x0 E s) #[ay (ab ⟨E.dg,0,af⟩)] W λe w'=>e=rI (iZ E s).1 (bh #[])/\∃K,gF E f g pk (iZ E s).2 K/\ai an FX w' [K,F]:=by
 obtain⟨st,nx,bE,j,d⟩:=s;have z:ai an FX W [ct E pk st (nx:Int) bE,cV E j A c,aO E.B m d,f,g,F]:=L.kq;have G:=h.e.en;have U:nx<=(ey E.bd E.ms).length:=h.nx;have T:=h.e.p8.en;obtain⟨O,S⟩:0<=j.next/\j.next<18446744073709551616:=h.next;obtain⟨jn,H⟩:=tA O;have P:j.next.toNat=jn:=ae;simp only at hst;unfold iZ x0;simp only[if_neg hst];by_cases u:bE=aB
 .obtain⟨h1,C,w,_⟩:=h.bE u hst;simp only at h1 C w;obtain⟨a,M⟩:=tA C;have hat:j.last.off.toNat=a:=ae;rw[hat]at w⊢
  have N:j.last.data.length<=140737488355328:=by have D:=h.j.dev.small;rw[<-h.j.dev.len]at D;simp only at D;omega
  rw[if_pos u,if_pos u];have v:ai an FX W [ct E pk st (nx:Int) bE,cV E j A c,aO E.B m d,bQ [f,g,F]]:=ai.tail [ct E pk st (nx:Int) bE,cV E j A c,aO E.B m d] [f,g,F] z;refine(as2 E pk st nx bE m d a j A c an W FX (bQ [f,g,F]) h.j.dev h.up w h.en ae h1 M N v).mono λe w' ⟨o,q,r⟩=>?_;by_cases hz:(j0 d a j.last.data).1=0;·obtain⟨b,k⟩:=q hz;rw[if_pos hz,o,hz];refine⟨aa,_,gF.mk (pk:=pk) (A:=A) (c:=c) (m:=b) ae,?_⟩;exact ai.fC 5 (ai.iv [ct E pk 1 _ _,cV E j A c,aO _ b _] _ k)
  .obtain⟨b,k⟩:=r hz;rw[if_neg hz,o];refine⟨aa,_,gF.mk (pk:=pk) (A:=A) (c:=c) (m:=b) ae,?_⟩;exact ai.fC 5 (ai.iv [ct E pk st _ bE,cV E j A c,aO _ b _] _ k)
 .rw[if_neg u,if_neg u];have v:ai an FX W [ct E pk st (nx:Int) bE,cV E j A c,aO E.B m d,f,bQ [g,F]]:=ai.tail [ct E pk st (nx:Int) bE,cV E j A c,aO E.B m d,f] [g,F] z;rw[P];by_cases I:nx=(ey E.bd E.ms).length
  .have Q:(ey E.bd E.ms)[nx]?=none:=List.getElem?_eq_none ae;rw[if_pos I,Q];simp only;refine(ajD E pk st (nx:Int) bE m d jn j A c f an W FX (bQ [g,F]) y G h.e.new h.j h.up h.en H ⟨ae,h.e.id⟩ v).mono λe w' ⟨o,q,r⟩=>?_;by_cases hz:(ov E d jn j).1=0;·obtain⟨i,l,b,k⟩:=q hz;rw[if_pos hz,o,hz];refine⟨aa,_,gF.mk (pk:=lx pk (hQ _ 0 E.n)) (A:=i) (c:=l) (m:=b) (G0 h.e.eS _ _),?_⟩;exact ai.fC 5 (ai.iv [ct E _ 2 _ bE,cV E _ i l,aO _ b _,f] _ k)
   .obtain⟨i,l,b,k⟩:=r hz;rw[if_neg hz,o];refine⟨aa,_,gF.mk (pk:=lx pk (hQ _ 0 E.n)) (A:=i) (c:=l) (m:=b) (G0 h.e.eS _ _),?_⟩;exact ai.fC 5 (ai.iv [ct E _ st _ bE,cV E _ i l,aO _ b _,f] _ k)
  .obtain⟨bF,x⟩:∃bF,(ey E.bd E.ms)[nx]?=ab bF:=⟨_,cm ae⟩;rw[if_neg I,x];simp only;obtain⟨t,hch,V⟩:=h.e.ch bF (cM x);have R:bF.to.toNat=t:=by rw[hch.cF];rfl
   rw[R];have J:zL pk bF<=max pk (E.bd:Int):=by grind[zL]
   refine(amQ E pk st nx bE m d jn t j A c bF f an W FX (bQ [g,F]) y ae G x hch h.j h.up h.en H ⟨ae,h.e.id⟩ v).mono λe w' ⟨o,q,r⟩=>?_;by_cases hz:(lO d E.first E.bd E.id jn nx t j (kG d bF)).1=0;·obtain⟨i,l,b,k⟩:=q hz;rw[if_pos hz,o,hz];refine⟨aa,_,gF.mk (pk:=_) (A:=i) (c:=l) (m:=b) J,?_⟩;exact ai.fC 5 (ai.iv [ct E _ 1 _ au,cV E _ i l,aO E.B b _,f] [g,F] k)
   .obtain⟨i,l,b,k⟩:=r hz;rw[if_neg hz,o];refine⟨aa,_,gF.mk (pk:=_) (A:=i) (c:=l) (m:=b) J,?_⟩;exact ai.fC 5 (ai.iv [ct E _ st _ bE,cV E _ i l,aO E.B b _,f] [g,F] k)
def Fz.yd{d cE bd bF t}(h:Fz d bd bF t)(g:cE.bytes.length=d.bytes.length)(i:dS d)(j:dS cE):Fz cE bd bF t:=by
 have e:(kG cE bF).length=(kG d bF).length:=by
  unfold kG;by_cases hk:bF.k=1;·obtain⟨f,q,l,n,m⟩:=h.DO hk;grind[An]
  .grind
 exact⟨h.cF,λhk=>by obtain⟨f,q,a,b,c⟩:=h.DO hk;exact⟨f,q,a,b,ae⟩,by rw[e];exact h.fU,by rw[e,g];exact h.fit⟩
def CT.yd{E d cE}(h:CT E d)(c:cE.bytes.length=d.bytes.length)(e:dS d)(f:dS cE):CT E cE:=
 ⟨h.eS,h.eZ,h.p8,by rw[c];exact h.old,by rw[c];exact h.new,h.en,h.id,λbF g=>by obtain⟨t,a,b⟩:=h.ch bF g;exact⟨t,a.yd c e f,b⟩⟩
def amO{d first bd id jn nx t j bs}(c:kk d first bd)(f:d.down=au)(g:d.cache.length<=1000000000)(hb:bs.length<=bd)(i:t+bs.length<=d.bytes.length):
 kg d (lO d first bd id jn nx t j bs).2.2/\((lO d first bd id jn nx t j bs).1=0->(lO d first bd id jn nx t j bs).2.2.down=au/\(lO d first bd id jn nx t j bs).2.2.cache=[]/\(lO d first bd id jn nx t j bs).2.1.next =IntKind.u64.wrap ((jn:Int)+1)):=by
 have h1:=Qm (id:=id) (nx:=jn) (cu:=nx) (of:=t) (j:=j) c f g hb;unfold lO;by_cases h:(jz d first bd id j jn nx t bs).1≠0;·grind
 .rw[if_neg h];have e:=h1.2.1 (CS h);have a:=afl (o:=t) (bs:=bs) h1.1.ok (by rw[h1.1.len c.dev];exact i) e.1 aG;exact⟨h1.1.trans a.1,λb=>⟨(a.2 b).1,(a.2 b).2,aG⟩⟩
theorem am5{E d jn j}(a:kk d E.first E.bd)(b:d.down=au)(c:d.cache.length<=1000000000):kg d (ov E d jn j).2.2:=by
 unfold ov;split;·grind[Qm]
 .exact kg.refl a.dev
def aeF{E s}(h:rz E s)(hst:s.st≠2):kg s.d (iZ E s).2.d/\((iZ E s).1=0->(iZ E s).2.st≠2->rz E (iZ E s).2/\(iZ E s).2.nx=s.nx+1):=by
 obtain⟨st,nx,bE,j,d⟩:=s;have q:nx<=(ey E.bd E.ms).length:=h.nx;have a:kk d E.first E.bd:=h.j;have l:d.down=false:=h.up;have i:d.cache.length<=1000000000:=h.en;have b:CT E d:=h.e;have m:0<=j.next/\j.next<18446744073709551616:=h.next;simp only at hst;unfold iZ;simp only[if_neg hst];by_cases c:bE=aB
 .obtain⟨_,_,f,g⟩:=h.bE c hst;simp only at f g;rw[if_pos c];have h1:=afl (o:=j.last.off.toNat) (bs:=j.last.data) a.dev f l i;by_cases hz:(j0 d j.last.off.toNat j.last.data).1=0;·rw[if_pos hz];refine⟨h1.1,λ_ _=>⟨⟨b.yd (h1.1.len a.dev) a.dev h1.1.ok,a.yd h1.1,(h1.2 hz).1,?_,m,g,λh=>aG⟩,aa⟩⟩;grind
  .grind
 .rw[if_neg c];by_cases p:nx=(ey E.bd E.ms).length;·grind[am5]
  .obtain⟨bF,k⟩:∃bF,(ey E.bd E.ms)[nx]?=ab bF:=⟨_,cm ae⟩;rw[k];simp only;obtain⟨t,hch,r⟩:=b.ch bF (cM k);have n:bF.to.toNat=t:=by rw[hch.cF];rfl
   rw[n];have h1:=amO (id:=E.id) (jn:=j.next.toNat) (nx:=nx) (t:=t) (j:=j) a l i hch.fU hch.fit;by_cases hz:(lO d E.first E.bd E.id j.next.toNat nx t j (kG d bF)).1=0
   .rw[if_pos hz];refine⟨h1.1,λ_ _=>⟨⟨b.yd (h1.1.len a.dev) a.dev h1.1.ok,a.yd h1.1,(h1.2 hz).1,?_,?_,?_,λh=>aG⟩,aa⟩⟩;·grind
    .show 0<=(lO d E.first E.bd E.id j.next.toNat nx t j (kG d bF)).2.1.next /\_;rw[(h1.2 hz).2.2];exact wrap_u64 _
    .grind
   .grind
def vL(E:pd):Nat->pe->Int×pe
 |0,s=>(0,s)
 |k+1,s=>if(iZ E s).1≠0\/(iZ E s).2.st=2 then iZ E s else vL E k (iZ E s).2
def TH{E s}(h:s.st=2):iZ E s=(0,s):=by grind[iZ]
theorem adW{E}:∀(k) s,rz E s->kg s.d (vL E k s).2.d
 |0,s,h=>kg.refl h.j.dev
 |k+1,s,h=>by
  unfold vL;by_cases hst:s.st=2;·rw[TH hst,if_pos (.inr hst)];exact kg.refl h.j.dev
  .have h1:=aeF h hst;by_cases a:(iZ E s).1≠0\/(iZ E s).2.st=2;·rw[if_pos a];exact h1.1
   .rw[if_neg a];have b:=h1.2 (CS λh=>a (.inl h)) (λh=>a (.inr h));exact h1.1.trans (adW k _ b.1)
section
attribute [local irreducible] wpList c9
def nG(m:bI):Int:=if m.k=1 then m.n else 0
def lv(ms:List bI):Int:=(ms.map nG).sum
def QO{ms:List bI}{j m}(h:ms[j]?=ab m):lv (ms.take (j+1))=lv (ms.take j)+nG m:=by grind[lv,fv]
def alh{ms}(h:∀m∈ms,0<=nG m/\nG m<=1048576):0<=lv ms/\lv ms<=(ms.length:Int)*1048576:=by
 induction ms with
 |nil=>simp[lv]
 |cons m r a=>
  have h1:=h m aU;have b:=a (λx hx=>h x aG);grind[lv]
def Yk{ms:List bI}(h:∀m∈ms,0<=nG m/\nG m<=1048576)(b:ms.length<=1048576)j:0<=lv (ms.take j)/\lv (ms.take j)<=1048576*1048576:=by have q:=alh (ms:=ms.take j) (λm a=>h m (Ba a));grind
def aeR(o n)(g1 g2)A c ms w(D:cD w A ms)(S:ms.length<=1048576)(r:0<=n/\n<=1048576)(hv:∀m∈ms,0<=nG m/\nG m<=1048576):
 aD ax 29 #[dD o n g1 g2 (ad A ms.length c)] w λe w'=>e=aA (bh #[J R (lv ms),J R (n -lv ms)])/\ao w w':=by
 have M:=hid D;have P:=hid hv;have N:=hid r;have O:=hid (Yk hv S);clear D hv r;go_enter func29,ntmps29;have a:=bg w;go_upto_region 0 with fail;refine ar ?_;refine bO a (av (a6 o n g1 g2 (ad A ms.length c))) (λG w1 a=>?_);refine v2 ?_;refine Uj ?_;refine pl a 0 66 ?_ (hv:=eT);refine dQ ?_;have y:=a.pk [0];go_wp2_with fail;go_loopw [4,12] (λF u wr=>∃(s:Int) (j:Nat),j<=ms.length/\aE (lv (ms.take j)=s)/\F=J R s/\u=J R (j:Int)/\ai w (λ_=>False) wr [ah G (a6 o n g1 g2 (ad A ms.length c)) 26]) (λF u wr=>ms.length -(cg u).toNat);case atStart=>exact⟨0,0,cQ _,hid aa,aa,aa,y⟩
 case round=>
  clear a y;obtain⟨s,j,V,h,rfl,rfl,a⟩:=hrel;have E:=O j;rw[h]at E;obtain⟨hs0,hs1⟩:=E;by_cases hlt:j<ms.length
  .have Q:(j:Int)<(ms.length:Int):=ae;obtain⟨m,q⟩:∃m,ms[j]?=ab m:=⟨_,cm hlt⟩;obtain⟨l,g,b,d,z,B,C⟩:=cD.ia M q;have I:=hid z;have U:=hid B;have K:=hid C;have x:=hid q;clear z B C q;have p:=QO x;have t:=P m (cM x);rw[h]at p;have v:=hid p;clear p;go_upto_region 3 with fail;refine ar ?_;refine dR ?_;refine aJ (ay (ab ⟨l,(g+j*5),af⟩)) (cI 24 73 5 (bc 10) (bc 12) aa eB aw l g (ms.length) c j ((g+j*5)) (by show ad A _ _=_;rw[I]) aa hlt aa) ?_;refine aJ (av #[J R m.k,J R m.to,J R m.fr,J R m.n,ad b m.data.length d]) (by(refine e7 73 (bc 14) aa l (g+j*5) aa ([J R m.k,J R m.to,J R m.fr,J R m.n,ad b m.data.length d]:List Value) (K _ a.only) fX aa aw)) ?_;refine bA a #[J R 0,J R 0,J R 0,J R 0,ad af 0 0] (λT aS a=>?_);refine ba a 0 (av #[J R m.k,J R m.to,J R m.fr,J R m.n,ad b m.data.length d]) (λbN a=>?_);refine ak ?_;by_cases hk:m.k=1
   .have f:aE (nG m=m.n):=hid (if_pos hk);rw[f]at t;obtain⟨hv0,X⟩:=t;have i:aE (∀W,aD ax 79 #[av #[J R m.k,J R m.to,J R m.fr,J R m.n,ad b m.data.length d]] W λe w'=>e=aA (bh #[av #[J R m.fr,J R m.n],aj aB])/\ao W w'):=hid (λW=>by rw[hk];exact yP m.to m.fr m.n b m.data.length d W);clear hk;refine aF ?_;refine bt a 0 #[J R m.k,J R m.to,J R m.fr,J R m.n,ad b m.data.length d] ?_;refine bC (i _) a (λcc a=>?_);refine v3 ?_;refine bA a #[J R 0,J R 0] (λH cG a=>?_);refine ba a 0 (av #[J R m.fr,J R m.n]) (λc6 a=>?_);refine ag ?_;refine aF ?_;refine ku ?_;refine pl a 0 1 ?_;refine pad s (m.n) (s+m.n) ?_;refine dR ?_;refine pad (j:Int) 1 ((j+1:Nat):Int) ?_;refine bR ?_;go_wp2_with fail;go_roundw;case rel=>exact⟨s+m.n,j+1,ae,hid (v.out.trans (by rw[f];try rw[Int.add_zero])),aa,aa,a.pick [2]⟩
    case measure=>simp[cg]<;>omega
   .have f:aE (nG m=0):=hid (if_neg hk);have i:aE (∀W,aD ax 79 #[av #[J R m.k,J R m.to,J R m.fr,J R m.n,ad b m.data.length d]] W λe w'=>e=aA (bh #[av #[J R 0,J R 0],aj au])/\ao W w'):=hid (λW=>yQ m.k m.to m.fr m.n b m.data.length d W hk);clear hk t;refine aF ?_;refine bt a 0 #[J R m.k,J R m.to,J R m.fr,J R m.n,ad b m.data.length d] ?_;refine bC (i _) a (λdX a=>?_);refine v3 ?_;refine bA a #[J R 0,J R 0] (λH dH a=>?_);refine ba a 0 (av #[J R 0,J R 0]) (λe9 a=>?_);refine ag ?_;refine afn ?_;refine pad (j:Int) 1 ((j+1:Nat):Int) ?_;refine bR ?_;go_wp2_with fail;go_roundw;case rel=>exact⟨s,j+1,ae,hid (v.out.trans (by rw[f];try omega)),aa,aa,a.pick [2]⟩
    case measure=>simp[cg]<;>omega
  .have Q:¬(j:Int)<(ms.length:Int):=ae;obtain rfl:j=ms.length:=ae;have r:=N.out;have L:aE (lv ms=s):=hid (by rw[<-h,il]);go_upto_region 3 with fail;refine ar ?_;refine ih ?_;refine bP a [] (λ_ _=>aZ) (λ_ _=>emp) (λ_=>[]) (λ|2=>[0]|_=>[]) (λ_=>[]) [0] (λY=>?_);refine br ?_;refine dl 0 1 ?_ (hv:=jh);refine aL ?_;refine aM (J R (n -s)) (λ_ _ _=>pH 3 (bc 29) (bc 30) 3 aa n s (n -s) aa aa ae ae ae) ?_;refine br ?_;refine bS λZ a=>?_;go_wp2_with fail;go_ret2;exact⟨by rw[L];rfl,a.only⟩
def amK(fb n)(g1 g2)A c ms S(o od)w(i:cD w A ms)(hc:Conv ms S o od):
 aD ax 37 #[dD fb n g1 g2 (ad A ms.length c)] w λe w'=>∃k l,e=aA (ad k o.length l)/\ao w w':=by
 have f:=hid (λW g=>QI A c ms S o od W (i.aI g) hc);obtain⟨u,b⟩:=ex ms.length;obtain⟨p,hno⟩:=ex o.length;obtain⟨Ae,j⟩:=ex od.length;rw[b,hno,j]at f;rw[b,hno];clear i hc b hno j;go_enter func37,ntmps37;have a:=bg w;go_upto_region 0 with fail;refine ar ?_;refine bO a (av _) (λs w1 a=>?_);refine cK ?_;refine pl a 0 66 ?_ (hv:=eT);refine a7 (f _ a.only) ?_;rintro e v ⟨r,d,h,q,t,rfl,m⟩;replace a:=a.new _ m;refine bb ?_;refine pk (ad d p h) ?_;refine bR ?_;go_wp2_with fail;go_ret;exact⟨d,h,aa,a.only⟩
def Cg(ms:List bI)(x:Int):Int:=(ms[x.toNat]?.map (·.n)).getD 0
def nf(ms:List bI)(l:List Int):Int:=(l.map (Cg ms)).sum
def anv{ms}{l:List Int}{j i:Nat}{m}(h:l[j]?=ab (i:Int))(a:ms[i]?=ab m):nf ms (l.take (j+1))=nf ms (l.take j)+m.n:=by simp[nf,fv,h,Cg,a]
def ant{ms l}(h:∀x∈l,0<=Cg ms x/\Cg ms x<=1048576):0<=nf ms l/\nf ms l<=(l.length:Int)*1048576:=by
 induction l with
 |nil=>simp[nf]
 |cons m r a=>
  have h1:=h m aU;have b:=a (λx hx=>h x aG);grind[nf]
def Zg{ms}{l:List Int}(h:∀x∈l,∃i:Nat,x=(i:Int)/\i<ms.length)(b:∀m∈ms,0<=m.n/\m.n<=1048576)(a:l.length<=1048576)j:0<=nf ms (l.take j)/\nf ms (l.take j)<=1048576*1048576:=by have q:=ant (ms:=ms) (l:=l.take j) (λx hx=>by grind[Cg]);grind
def anz(fb n)(g1 g2)A c ms S(o od)w(k:cD w A ms)(hc:Conv ms S o od)(p:∀x∈o,∃i:Nat,x=(i:Int)/\i<ms.length)(hv:∀m∈ms,0<=m.n/\m.n<=1048576):
 aD ax 36 #[dD fb n g1 g2 (ad A ms.length c)] w λe w'=>e=aA (J R (nf ms o))/\ao w w':=by
 have Q:=hid k;have u:=hid (Zg p hv hc.DZ);have U:=hid p;have Ww:=hc.DZ;have eg:=hc.ok.en;have M:=hid (λW g=>QI A c ms S o od W (k.aI g) hc);clear k hc p hv;go_enter func36,ntmps36;have a:=bg w;go_upto_region 0 with fail;refine ar ?_;refine bO a (av _) (λK w1 a=>?_);refine ag ?_;refine Uj ?_;refine pl a 0 66 ?_ (hv:=eT);refine a7 (M _ a.only) ?_;rintro e aS ⟨j1,b,B,I,co,rfl,X⟩;replace a:=a.new _ X;refine bb ?_;refine pk (ad b o.length B) ?_;refine dQ ?_;replace a:ai _ _ _ [k9 b o,k9 I od,ah _ (a6 fb n g1 g2 _) 26]:=(a.front 0).kq;have v:=a.pk [0,2];go_wp2_with fail;go_loopw [3,11] (λH q wr=>∃(s:Int) (j:Nat),j<=o.length/\aE (nf ms (o.take j)=s)/\H=J R s/\q=J R (j:Int)/\ai w (λ_=>False) wr [k9 b o,ah K (a6 fb n g1 g2 (ad A ms.length c)) 26]) (λH q wr=>o.length -(cg q).toNat);case atStart=>exact⟨0,0,cQ _,hid aa,aa,aa,v⟩
 case round=>
  clear a v;obtain⟨s,j,hj,f,rfl,rfl,a⟩:=hrel;have d:=u j;rw[f]at d;obtain⟨hs0,hs1⟩:=d;by_cases hlt:j<o.length
  .have Y:(j:Int)<(o.length:Int):=ae;obtain⟨x,hx⟩:∃x,o[j]?=ab x:=⟨_,cm hlt⟩;obtain⟨i,Z,G⟩:=U x (cM hx);subst Z;obtain⟨z,r,D,_⟩:=(a.at 0:cX _ b o) ae;have t:=hid D;have y:=hid hx;clear hx D;obtain⟨m,l⟩:∃m,ms[i]?=ab m:=⟨_,cm G⟩;obtain⟨V,bM,aQ,aR,C,E,F⟩:=cD.ia Q l;have L:=hid C;have gT:=hid E;have N:=hid F;have T:=hid l;clear C E F l;have h:=anv y T;have d:=u (j+1);rw[h,f]at d;rw[f]at h;obtain⟨hs2,hs3⟩:=d;have P:=hid h;clear h;go_upto_region 3 with fail;refine ar ?_;refine dR ?_;refine aJ (ay (ab ⟨z,(r+j),af⟩)) (cI 82 3 1 (bc 9) (bc 11) aa Tryz.underlying82 aw z r (o.length) B j ((r+j)) (by show ad b _ _=_;rw[t]) aa hlt ae) ?_;refine aJ _ (nk aa aa (cX.cell (a.at 0) t y) aw) ?_;refine ku ?_;refine pl a 1 66 ?_ (hv:=eT);refine ag ?_;refine aJ _ (cI 24 73 5 (bc 17) _ aa eB aw V bM _ c i _ (by show ad A _ _=_;rw[L]) aa G aa) ?_;refine ag ?_;refine aJ _ (nk aa aa (N _ a.only 3 _ aa) aw) ?_;refine pad s _ (s+m.n) ?_;refine dR ?_;refine pad (j:Int) 1 ((j+1:Nat):Int) ?_;refine bR ?_;go_wp2_with fail;go_roundw;case rel=>exact⟨_,_,ae,P,aa,aa,a.pick [0,1]⟩
   case measure=>simp[cg]<;>omega
  .have Y:¬(j:Int)<(o.length:Int):=ae;obtain rfl:j=o.length:=ae;have O:aE (nf ms o=s):=hid (by rw[<-f,il]);go_upto_region 3 with fail;refine ar ?_;refine ag ?_;refine aF ?_;refine dQ ?_;go_wp2_with fail;go_ret;exact⟨by rw[O];rfl,a.only⟩
end
section
attribute [local irreducible] wpList c9
def sZ(old:List Int)(n:Nat)(l:List bI):List Int:=l.foldl (λa m=>ig a m.to.toNat (fO old m)) (List.replicate n 0)
theorem ar6 old n l m:sZ old n (l++[m])=ig (sZ old n l) m.to.toNat (fO old m):=by simp[sZ]
def ar7{old n}{l:List bI}{j m}(h:l[j]?=ab m):sZ old n (l.take (j+1))=ig (sZ old n (l.take j)) m.to.toNat (fO old m):=by grind[fv,ar6]
def jc.at{o n m}(h:jc o n m){old}(b:old.length=o):∃q:Nat,m.to=(q:Int)/\q+(fO old m).length<=n/\0<(fO old m).length:=by have e:=GH h b;obtain⟨a,f,_⟩:=h.1.b';obtain⟨q,c⟩:=tA (show 0<=m.to from a);have d:=h.2.2;exact⟨q,c,ae,ae⟩
def ar5{old n o}(c:old.length=o):∀{l},(∀m∈l,jc o n m)->(sZ old n l).length=n:=by
 have key:∀(l:List _) a,a.length=n->(∀m∈l,jc o n m)->(l.foldl (λa m=>ig a m.to.toNat (fO old m)) a).length=n:=by
  intro l;induction l with
  |nil=>simp
  |cons m r e=>
   intro a b h;refine e _ ?_ (λx hx=>h x aG);simp only;obtain⟨q,d,h1,_⟩:=(h m aU).at c;rw[d,Dq,Ai ae];exact b
 exact λ{l} h=>key l _ aU h
def ane(o n b1)(g1 g2)(d A)c ms w(b:cD w A ms)(hv:nC o n ms):
 aD ax 86 #[ad d o b1,dD (o:Int) (n:Int) g1 g2 (ad A ms.length c)] w λe w'=>e=aA (aj aB)/\ao w w':=by
 have f:=hid (λW g=>ae2 o n g1 g2 A c ms W (b.aI g) hv);clear b hv;go_enter func86,ntmps86;have a:=bg w;go_upto_region 0 with fail;refine ar ?_;refine bO a (av _) (λh w1 a=>?_);refine dR ?_;refine bt a 0 (a6 (o:Int) (n:Int) g1 g2 (ad A ms.length c)) ?_ (hv:=(ef _)) (hk:=by omega) (hz:=(by rw[cN];rfl));refine bC (f _ a.only) a (λi a=>?_);refine v2 ?_;refine pl a 0 0 ?_ (hv:=mA);refine v2 ?_;refine cd (aj aB) ?_;refine pk (aj aB) ?_;refine bR ?_;go_wp2_with fail;go_ret;exact⟨aa,a.only⟩
def ar9(o n b1)(g1 g2)(f A)c old ms w(G:old.length=o)(hc0:o<=b1)(hn:n<=1048576)(hold:bT w f old)(F:cD w A ms)(hv:nC o n ms):
 aD ax 35 #[ad f o b1,dD (o:Int) (n:Int) g1 g2 (ad A ms.length c)] w λe w'=>∃B,e=aA (ad (ab ⟨B,0,af⟩) n n)/\b5 w w' (ah B (aY a' (sZ old n ms) []) 5):=by
 have cw:=hid F;have cB:=hid hv;have dv:=hid hold;have z:=hid G;have eg:=hv.en;have c0:=hid (λW g=>ane o n b1 g1 g2 f A c ms W (F.aI g) hv);have iB:=hid (λj=>ar5 (l:=ms.take j) G (λm r=>hv.fits m (Ba r)));clear F hv hold G;go_enter func35,ntmps35;have d:=bg w;go_upto_region 0 with fail;refine ar ?_;refine bO d (av _) (λY w1 d=>?_);refine cK ?_;refine bt d 0 (a6 (o:Int) (n:Int) g1 g2 (ad A ms.length c)) ?_ (hv:=(ef _)) (hk:=by omega) (hz:=(by rw[cN];rfl));refine bC (c0 _ d.only) d (λaS d=>?_);refine pk (aj au) ?_;refine b6 ?_;refine pl d 0 1 ?_ (hv:=jh);refine Im d (Ta n aa aa aa dJ aw ae) (λy bN d=>?_);refine cK ?_;refine pl d 1 66 ?_ (hv:=eT);refine dQ ?_;have P:=d.pk [0,1];go_wp2_with fail;go_loopw [18] (λH wr=>∃(j:Nat),j<=ms.length/\H=J R (j:Int)/\ai w (λ_=>False) wr [ah y (aY a' (sZ old n (ms.take j)) []) 5,ah Y (a6 (o:Int) (n:Int) g1 g2 (ad A ms.length c)) 26]) (λH wr=>ms.length -(cg H).toNat);case atStart=>exact⟨0,cQ _,aa,P⟩
 case round=>
  clear d P;obtain⟨j,hj,rfl,d⟩:=hrel;by_cases hlt:j<ms.length
  .have cJ:(j:Int)<(ms.length:Int):=ae;obtain⟨m,r⟩:∃m,ms[j]?=ab m:=⟨_,cm hlt⟩;obtain⟨C,I,p,D,Q,U,V⟩:=cD.ia cw r;have Z:=hid Q;have M:=hid U;have N:=hid V;have O:=hid r;clear Q U V r;have E:=cB.out.fits m (cM O);have s:=ar7 (old:=old) (n:=n) O;have hpl:=iB j;obtain⟨q,x,nM,mI⟩:=E.at z;rw[x,Dq]at s;obtain⟨a,S⟩:=ex (sZ old n (ms.take j));rw[S]at s hpl d;have L:aE (∀W,aD _ 87 #[ad f o b1,av #[J _ _,J _ (q:Int),J _ _,J _ _,ad p _ D]] W λe w'=>∃K aC,e=aA _/\(∀W,bT W f _->bT W p _->bT W K _)/\(fO _ m).length<=aC/\(∀b,dV K b->dV f b\/dV p b)/\ao W w'):=hid (λW=>by have h:=XV o n b1 f p D _ m W E z hc0 (M _ d.only).2;rw[z]at h;rw[<-x];exact h);obtain⟨bs,T⟩:=ex (fO old m);rw[T]at L s nM mI;have rv:=hid s;have aiA:=hid hpl;have uR:aE (∀W,ao w W->bT W p _):=hid (λW g=>(M _ g).1);have gU:=hid x;clear s hpl E S T x;rw[gU]at N;go_upto_region 5 with fail;refine ar ?_;refine cd (aj aB) ?_;refine aF ?_;refine aJ (ay (ab ⟨C,(I+j*5),af⟩)) (cI 24 73 5 (bc 16) (bc 18) aa eB aw C I (ms.length) c j ((I+j*5)) (by show ad A _ _=_;rw[Z]) aa hlt aa) ?_;refine aJ _ (by(refine e7 73 _ aa C _ aa _ (N _ d.only) fX aa aw)) ?_;refine bA d #[J _ 0,J _ 0,J _ 0,J _ 0,ad _ 0 0] (λfM cc d=>?_);refine ba d 0 (av _) (λcG d=>?_);refine dh ?_;refine bP d [6,7] (λi u=>match i with|6=>ad u.A bs.length u.c|7=>J R (bs.length:Int)|_=>aZ) (λv=>λ|6=>kN (∀W,bT W f old->bT W p m.data->bT W (v 6).A bs) emp|7=>ah y (aY a' (ig a q bs) []) 5|_=>emp) (λ|7=>[1]|_=>[]) (λ|2=>[0]|5=>[0]|7=>[9]|_=>[]) (λ|6=>[6]|_=>[]) [0,2,9,10] (λv=>?_);refine br ?_;refine dl 0 1 ?_;refine aM _ (λ_ _ _=>aeo 22 5 _ _ aa dJ aw y n n q (n -q) aa aa ae (Nat.le_refl _) ae) ?_;refine aL ?_;refine eb 0 #[J R m.k,J R (q:Int),J R m.fr,J R m.n,ad p m.data.length D] ?_;refine df (λwl Fr d=>(L wl).mono ?_) ?_;·rintro e dn ⟨X,fG,rfl,oC,_,_,g⟩;exact⟨{A:=X,c:=fG},aa,((d.aI g).dT).kN oC⟩
   refine DS _ (λ_ _ d=>adY aa aa aa (d.a1 0) (((d.at (t:=kN (∀W,bT W f old->bT W p m.data->bT W (v 6).A bs) emp) 1).1 _ (dv.out.aI d.only) (uR.out _ d.only)).cells) ae (by rw[j7,aiA];simp only[List.length_nil];omega) (vG _) (show _=aY a' (ig a q bs) []from Xs) dJ aw) ?_;refine bS λc6 d=>?_;generalize (v 6).A=Up at d⊢;generalize (v 6).c=XY at d⊢;refine aF ?_;refine pad (j:Int) 1 ((j+1:Nat):Int) ?_;refine bR ?_;go_wp2_with fail;go_roundw;case rel=>exact⟨j+1,ae,aa,by rw[rv];exact d.pick [3,1]⟩
   case measure=>simp[cg]<;>omega
  .have cJ:¬(j:Int)<(ms.length:Int):=ae;have qG:j=ms.length:=ae;rw[qG,il]at d;go_upto_region 5 with fail;refine ar ?_;refine cd (aj au) ?_;refine aF ?_;refine dQ ?_;go_wp2_with fail;go_ret;exact⟨_,aa,d.fresh 0⟩
end
end Go.Proofs.YtcmhplknoglbkaaGreat
