/- Part 22 of the proof of TopConvertsSaid. -/
import Derived.Test.YtcmhplknoglbkaaGreat0
import Derived.Test.YtcmhplknoglbkaaGreat6
import Derived.Test.YtcmhplknoglbkaaGreat21
set_option linter.all false
set_option maxRecDepth 100000
set_option maxHeartbeats 4000000
open Go.Proofs.Tryz
open Bool renaming false->au,true->aB
open Decidable renaming of_not_not->CS
open Go renaming Calls->aD,execOp->bw,madeCells->FP,undef->aZ,wpList_nil->ak
open Go.Ending renaming returned->aA
open Go.IntKind renaming i64->R,u64->aH
open Go.Next renaming value->c8
open Go.Proofs.Tryz renaming func326->Va,ntmps326->Vx,prog->ax,underlying22->dJ
open Go.Result renaming andThen_ok->ji
open Go.Sem renaming run_bind->gl,run_pure->jR
open Go.Value renaming bool->aj,int->J,map->dF,pointer->ay,slice->ad
open List renaming length_map->gW,map_cons->jx,map_nil->kC,map_toArray->ob,mem_append->iD,not_mem_nil->gb,replicate->fu
open Nat renaming le_refl->cp
open Option renaming none->af,some->ab
open Option.some renaming injEq->wC
namespace Go.Proofs.YtcmhplknoglbkaaGreat
open Go.RowKit Go.MapKept Go.WideMaps
open Go.ChangeMaps (setBlock heap_setBlock_same heap_setBlock_other)
def xq(d:dM)(n:Nat)(b:List Int):dM:={d with cache:=d.cache++[(n,b)],et:=R.wrap (d.et+1),hi:=max d.hi ((n:Int)+1),cW:=max d.cW ((d.cache.length+1:Nat):Int)}
def tc(d:dM)(n:Nat)(b:List Int):dM:={xq d n b with writes:=d.writes -1}
def IV(d:dM)(n:Nat)(b:List Int):dM:={s0 (tc d n b) (EC d.keep)with down:=aB,ir:=R.wrap (d.ir+1)}
def jC(d:dM)(i:Int)(b:List Int):Int×dM:=
 if j9 d i≠0 then(j9 d i,d)else if b.length≠d.size then(2,d)
 else if d.writes<0 then(0,xq d i.toNat b)else if 0<=d.writes -1 then(0,tc d i.toNat b)else(18,IV d i.toNat b)
theorem afk{d}(h:dS d){n}(a:n<d.cnt){b}(hb:b.length=d.size)(c:d.cache.length<1073741824):dS (xq d n b):=
 ⟨h.mj,h.ve,h.len,h.small,λx hx=>by
   rcases iD.1 hx with hx|hx;·exact h.cache x hx
   .obtain rfl:x=(n,b):=aG;exact⟨a,hb⟩,by show(d.cache++[(n,b)]).length<=_;simp;omega,h.wr⟩
theorem T7{d}(h:dS d){n}(e:n<d.cnt){b}(hb:b.length=d.size)(c:d.cache.length<1073741824)(f:0<=d.writes):dS (tc d n b):=
 have h1:=afk h e hb c
 ⟨h1.mj,h1.ve,h1.len,h1.small,h1.cache,h1.en,by have a:=h.wr;unfold db at a⊢;show _<=d.writes -1/\d.writes -1<=_;omega⟩
def T9{d}(h:dS d)i b(c:d.cache.length<1073741824):dS (jC d i b).2:=by
 unfold jC;split;·omega
 .rename_i hc;obtain⟨n,rfl,e⟩:=QX (CS hc);split;·omega
  .rename_i hb;have hb:=CS hb;split;·grind[afk]
   .rename_i f;split;·grind[T7]
    .have a:=Tq (T7 h e hb c ae) (EC d.keep);exact⟨a.mj,a.ve,a.len,a.small,a.cache,a.en,a.wr⟩
def atM{o}{a:Act}{w m x v}{b i n:Nat}{l}(s:o.op=.mapUpdate 118 m x v)(q:a.eval m=dF (ab b))(hx:a.eval x=J R (i:Int))(hv:a.eval v=J R (n:Int))(r:l.length=n)(h:(jM b l).p w)(hi:i<=1073741824)(y:n<=1073741824):
 ∃w',(bw a.eval o).run ax w=.ok .skip w'/\Turned w w' (jM b l) (jM b (l++[i])):=by
 obtain⟨z,g,hle,u⟩:=h;subst r;obtain⟨w',hrun,h1,d,t⟩:=g.update abP Tryz.underlying118 (by grind[maxLen]) (x:=(i:Int)) ⟨ae,ae⟩ (J R (l.length:Int));have f:aq (λj=>j=b) w w':=aq.of_grownBy d (λk hk=>.inl aG);refine⟨w',?_,f,⟨_,h1,?_,λj=>?_⟩,λj c=>⟨by have e:j=b:=c;rw[e];exact h1.lt,.inl c⟩⟩;·unfold bw;simp only[s,q,hx,hv];have e:(DX _)=J _ (i:Int):=rfl;rw[e]at hrun;simp[hrun]
 .grind[jY]
 .grind[SX,abS]
def ai.ash{an w FX l L A c bs}n(h:ai an FX w (lZ L::cf A c bs::l)):ai an FX w (lZ (L++[⟨n,A,c,bs⟩])::l):=
 h.star.as 0 aa (lZ (L++[⟨n,A,c,bs⟩])) (λh x hx=>by
  rcases iD.1 hx with hx|hx;·exact h.1 x hx
  .obtain rfl:x=⟨n,A,c,bs⟩:=aG;exact h.2.1) (λb ⟨x,hx,hb⟩=>by
  rcases iD.1 hx with hx|hx;·exact .inl ⟨x,hx,hb⟩
  .obtain rfl:x=⟨n,A,c,bs⟩:=aG;exact .inr hb)
def al9 B m d i F dC b w(V:Has w (aO B m d))(H:dS d)(hf:d.cache.length<1073741824)(hb:bT w F b)(gP:b.length<=140737488355328)(hne:∀x,dV F x->¬(aO B m d).c5 x):
 aD ax 326 #[di B,J R i,ad F b.length dC] w λe w'=>e=aA (J R (jC d i b).1)/\∃X,Turned w w' (aO B m d) (aO B X (jC d i b).2):=by
 obtain⟨bq,G⟩:=ex (j9 d i);have O:=hid (λW h=>by have q:=QW B m d i W h H;rw[G]at q;exact q);by_cases h0:bq=0
 .subst h0;obtain⟨n,rfl,hn⟩:=QX G;have M:=hid G;clear G;have fD:=H.Bs;have hf2:=H.en;have hw0:=H.wr;obtain⟨Sv,hw2⟩:=hw0;by_cases hbl:b.length=d.size
  .have C:=hid hbl;clear hbl;have bX:Hid (∀W,aq _ w W->bT W F b):=hid (λW g=>hb.only g (λx off e=>hne x ⟨_,_,e⟩));clear hb;obtain⟨axm,D5⟩:=ex m.L.length;have gx:=hid D5;clear D5;go_enter Va,Vx;have a:=ai.start V;go_step;refine aF ?_;refine bO a (ay _) (λo w1 a=>?_);refine ag ?_;refine ak ?_;replace a:=a.front 1;replace a:=a.zG;obtain⟨hpl,a⟩:=a;replace a:ai _ _ _ [ah B #[J R _,ad _ _ _,J R _,J aH _,J R d.et,J R d.e0,J R d.ir,J R d.hi,J R d.cW,ad m.A _ m.c,dF _,aj _] 120,ah m.cC _ 5,jM m.e2 _,bp m.A _ m.c oe 2 _,lZ m.L,ah o #[ay _] 32]:=a;go_step;refine aF ?_;refine pl a 5 0 ?_;refine ag ?_;refine a7 (O _ (a.a1 0)) ?_;rintro e aS ⟨rfl,g⟩;replace a:=a.aI g;refine bb ?_;refine ag ?_;refine ak ?_;have e6:(d.cache.map (·.1)).length=m.L.length:=by rw[hpl,gW,nu.plain,gW]
   have Rz:d.cache.length=m.L.length:=by rw[hpl,nu.plain,gW]
   have jf:=hid e6;have uR:=hid Rz;have ax8:m.L.length<1073741824:=ae;have iB:=hid hpl;clear e6 Rz hpl;go_step;refine aF ?_;refine ag ?_;refine pk (aj au) ?_;refine ak ?_;go_step;refine aF ?_;refine v2 ?_;refine pl a 5 0 ?_;refine v3 ?_;refine pl a 0 0 ?_;refine dt C (aj au) ?_;refine ak ?_;go_step;refine dh ?_;refine bP a [10] (λ_ _=>aZ) (λ_=>λ|10=>jM m.e2 ((d.cache.map (·.1))++[n])|_=>emp) (λ|10=>[2]|_=>[]) (λ|0=>[5]|3=>[0]|5=>[5]|8=>[0]|_=>[]) (λ_=>[]) [0,1,3,4,5,16] (λf=>?_);refine dl 0 0 ?_;refine br ?_;refine dl 0 10 ?_;refine aL ?_;refine dl 0 0 ?_;refine br ?_;refine dl 0 9 ?_;refine aL ?_;refine KM (λ_ _ a=>atM aa aa aa aa jf (a.at 0) ae ae) ?_;refine bS λbN a=>?_;go_step;refine dh ?_;refine bP a [7,9,10,13] (λi u=>match i with|7=>ad u.A b.length u.c|9=>ad (ab ⟨u.b,0,af⟩) 1 1|10=>ad u.A (m.L.length+1) u.c|_=>aZ) (λf=>λ|7=>cf ((f 7).A) ((f 7).c) b|9=>ah ((f 9).b) #[J R (n:Int),ad (f 7).A b.length (f 7).c] 258|10=>bp ((f 10).A) (m.L.length+1) ((f 10).c) oe 2 (l4 m.L++([J R (n:Int),ad (f 7).A b.length (f 7).c]))|13=>ah B #[J R (d.size:Int),ad (ab ⟨m.cC,0,af⟩) d.bytes.length d.bytes.length,J R d.writes,J aH d.keep,J R d.et,J R d.e0,J R d.ir,J R d.hi,J R d.cW,ad (f 10).A (m.L.length+1) (f 10).c,dF (ab m.e2),aj d.down] 120|_=>emp) (λ|10=>[2]|13=>[0]|_=>[]) (λ|0=>[4]|1=>[4]|4=>[0]|10=>[15]|_=>[]) (λ|7=>[7]|9=>[7,9]|10=>[7,10]|13=>[10]|_=>[]) [1,3,4,5,13,15,16,19] (λf=>?_);refine dl 0 0 ?_;refine dl 0 0 ?_;refine br ?_;refine dl 0 9 ?_;refine br ?_;refine df (λwl Fr a=>(wI F dC b _ (bX _ a.only) ae).mono ?_) ?_;·rintro e dn ⟨ck,c1,rfl,hrow,g⟩;exact⟨{A:=ck,c:=c1},aa,a.js g (Row.nS hrow)⟩
   refine aL ?_;refine lM #[J _ _,ad (f 7).A _ (f 7).c] _ ?_;refine tN (m:=1) 32 (λ_ _ a=>aX.cellsOf (m:=1) (a.a1 1) aa) (by intro u hu;simp only[List.mem_cons,gb,or_false]at hu;rcases hu with rfl|rfl<;>rfl) ?_;refine br ?_;refine fZ _ ?_;refine bS λcc a=>?_;generalize (f 7).A=Y at a⊢;generalize (f 7).c=Z at a⊢;generalize (f 9).b=N4 at a⊢;generalize (f 10).A=s at a⊢;generalize (f 10).c=t at a⊢;replace a:=a.pk [1,4,7,0,3,6,2];replace a:=a.ash n;obtain⟨k,Q⟩:=ex (m.L++[⟨n,Y,Z,b⟩]);have bD:(l4 m.L++([J R (n:Int),ad Y b.length Z]))=l4 k:=by grind[akx]
   have b9:m.L.length+1=k.length:=aG;have fH:k.map (λx=>(x.sec,x.bs))=d.cache++[(n,b)]:=by rw[<-Q,List.map_append,iB];rfl
   rw[Q,bD,b9]at a;have ax6:k.length<=1073741824:=ae;have N:=hid fH;have Z3:d.cache.length+1=k.length:=by rw[uR,b9]
   have P:=hid Z3;rw[b9];clear bD b9 fH Q Z3;go_step;refine aF ?_;refine pl a 5 0 ?_;refine v3 ?_;refine pl a 1 4 ?_;refine pk (J R (R.wrap (d.et+1))) ?_;refine v3 ?_;refine ba a 1 (J _ _) (λcG a=>?_);refine ak ?_;go_step;refine dh ?_;refine bP a [12] (λ_ _=>aZ) (λ_=>λ|12=>ah B #[J R (d.size:Int),ad (ab ⟨m.cC,0,af⟩) d.bytes.length d.bytes.length,J R d.writes,J aH d.keep,J R (R.wrap (d.et+1)),J R d.e0,J R d.ir,J R (max d.hi ((n:Int)+1)),J R d.cW,ad s k.length t,dF (ab m.e2),aj d.down] 120|_=>emp) (λ|12=>[1]|_=>[]) (λ|0=>[5]|1=>[5]|5=>[1]|_=>[]) (λ_=>[]) [0,2,3,4,5,18] (λf=>?_);refine dl 0 0 ?_;refine dl 0 0 ?_;refine c7 ?_;refine dl 0 7 ?_;refine aL ?_;refine aM _ (λ_ _ _=>lK 3 _ _ 3 aa _ 1 ((n:Int)+1) aa aa ae ae ae) ?_;refine aM _ (λ_ _ _=>by(go_simp;try with_reducible rfl)) ?_;refine c7 ?_;refine fZ _ ?_;refine bS λc6 a=>?_;go_step;refine dh ?_;refine bP a [15] (λ_ _=>aZ) (λ_=>λ|15=>ah B #[J R (d.size:Int),ad (ab ⟨m.cC,0,af⟩) d.bytes.length d.bytes.length,J R d.writes,J aH d.keep,J R (R.wrap (d.et+1)),J R d.e0,J R d.ir,J R (max d.hi ((n:Int)+1)),J R (max d.cW (k.length:Int)),ad s k.length t,dF (ab m.e2),aj d.down] 120|_=>emp) (λ|15=>[5]|_=>[]) (λ|0=>[4]|1=>[4]|5=>[5]|6=>[4]|9=>[5]|_=>[]) (λ_=>[]) [0,1,2,3,4,21] (λf=>?_);refine dl 0 0 ?_;refine dl 0 0 ?_;refine c7 ?_;refine dl 0 8 ?_;refine dl 0 0 ?_;refine br ?_;refine dl 0 9 ?_;refine aL ?_;refine aM _ (λ_ _ _=>by(go_simp;try with_reducible rfl)) ?_;refine c7 ?_;refine fZ _ ?_;refine bS λdX a=>?_;by_cases T:d.writes<0
   .have l:Hid (jC d n b=(0,xq d n b)):=hid (by rw[jC,M,if_neg bj,if_neg (by rw[C];simp),if_pos T];rfl);go_step;refine aF ?_;refine pl a 4 0 ?_;refine v3 ?_;refine pl a 5 2 ?_;refine cd (aj aB) ?_;refine ak ?_;go_step;refine aF ?_;refine ag ?_;refine ak ?_;have y:(d.cache.map (·.1))++[n]=(xq d n b).cache.map (·.1):=by simp[xq]
    have v:max d.cW (k.length:Int)=max d.cW ((d.cache.length+1:Nat):Int):=by rw[P]
    rw[y,v]at a;clear y v;replace a:ai _ _ _ (aO B (⟨m.cC,m.e2,s,t,k⟩) (xq d n b)::[ah o #[ay (ab ⟨B,0,af⟩)] 32]):=ai.vh (show(xq d n b).cache=nu.plain ⟨m.cC,m.e2,s,t,k⟩from N.out.symm) (a.pick (l':=_) [5,1,2,3,0,4]);go_wp2_with fail;go_ret;exact⟨by rw[l];rfl,_,by rw[l.out];exact a.gj 0⟩
   .by_cases mH:0<=d.writes -1
    .have l:Hid (jC d n b=(0,tc d n b)):=hid (by rw[jC,M,if_neg bj,if_neg (by rw[C];simp),if_neg T,if_pos mH];rfl);go_step;refine aF ?_;refine pl a 4 0 ?_;refine v3 ?_;refine pl a 5 2 ?_;refine cd (aj au) ?_;refine ak ?_;go_step;refine aF ?_;refine pl a 4 0 ?_;refine v3 ?_;refine pl a 5 2 ?_;refine mN _ 1 (d.writes -1) ?_;refine v3 ?_;refine ba a 5 (J _ _) (λdH a=>?_);refine ak ?_;go_step;refine aF ?_;refine pl a 4 0 ?_;refine v3 ?_;refine pl a 5 2 ?_;refine cd (aj aB) ?_;refine ak ?_;go_step;refine aF ?_;refine ag ?_;refine ak ?_;have y:(d.cache.map (·.1))++[n]=(tc d n b).cache.map (·.1):=by simp[tc,xq]
     have v:max d.cW (k.length:Int)=max d.cW ((d.cache.length+1:Nat):Int):=by rw[P]
     rw[y,v]at a;clear y v;replace a:ai _ _ _ (aO B (⟨m.cC,m.e2,s,t,k⟩) (tc d n b)::[ah o #[ay (ab ⟨B,0,af⟩)] 32]):=ai.vh (show(tc d n b).cache=nu.plain ⟨m.cC,m.e2,s,t,k⟩from N.out.symm) (a.pick (l':=_) [5,1,2,3,0,4]);go_wp2_with fail;go_ret;exact⟨by rw[l];rfl,_,by rw[l.out];exact a.gj 0⟩
    .have l:Hid (jC d n b=(18,IV d n b)):=hid (by rw[jC,M,if_neg bj,if_neg (by rw[C];simp),if_neg T,if_neg mH];rfl);have U:=T7 H hn C hf ae;go_step;refine aF ?_;refine pl a 4 0 ?_;refine v3 ?_;refine pl a 5 2 ?_;refine cd (aj au) ?_;refine ak ?_;go_step;refine aF ?_;refine pl a 4 0 ?_;refine v3 ?_;refine pl a 5 2 ?_;refine mN _ 1 (d.writes -1) ?_;refine v3 ?_;refine ba a 5 (J _ _) (λe9 a=>?_);refine ak ?_;go_step;refine aF ?_;refine pl a 4 0 ?_;refine v3 ?_;refine pl a 5 2 ?_;refine cd (aj au) ?_;refine ak ?_;have y:(d.cache.map (·.1))++[n]=(tc d n b).cache.map (·.1):=by simp[tc,xq]
     have v:max d.cW (k.length:Int)=max d.cW ((d.cache.length+1:Nat):Int):=by rw[P]
     rw[y,v]at a;clear y v;replace a:ai _ _ _ (aO B (⟨m.cC,m.e2,s,t,k⟩) (tc d n b)::[ah o #[ay (ab ⟨B,0,af⟩)] 32]):=ai.vh (show(tc d n b).cache=nu.plain ⟨m.cC,m.e2,s,t,k⟩from N.out.symm) (a.pick (l':=_) [5,1,2,3,0,4]);obtain⟨D,I⟩:=ex (tc d n b);obtain⟨p,S⟩:=ex (s0 D (EC d.keep));have hk2:D.keep=d.keep:=by rw[<-I];rfl
     have iI:p.ir=d.ir:=by rw[<-S,<-I];rfl
     rw[I]at U;have ah6:Hid (IV d n b={p with down:=aB,ir:=R.wrap (p.ir+1)}):=hid (by grind[IV])
     have bK:Hid (∀W E K,Has W (aO B E D)->aX W K _ 32->¬(aO B E D).c5 K->aD ax 63 #[di B,.func (.func 359) #[] _] W λe w'=>e=aA (.tuple #[])/\∃X,Turned W w' (aO B E D) (aO B X p)):=hid (λW E K h hx gg=>by
      have q:=QZ B E D _ #[ay _] _ W h U (enters_of func359 aw aa) (λq fw hq g hb2=>by have z:=ap4 K B E D q fw (by have h3:=U.en;rw[h.plain,nu.plain,gW]at h3;omega) (aq.heap g hx gg) hb2;rw[hk2]at z;exact z);rw[S]at q;exact q);rw[I]at a;clear I S iI;go_step;refine aF ?_;refine pl a 1 0 ?_;refine ag ?_;refine a7 (bK.out _ _ o (a.has 0) (a.a1 1) (λh=>a.ne (i:=0) (j:=1) aa aa bj _ h aa)) ?_;rintro e hT ⟨rfl,r,bH⟩;replace a:=a.eG 0 bH;refine bb ?_;refine ak ?_;replace a:=a.zG;obtain⟨aoY,a⟩:=a;replace a:ai _ _ _ [ah B #[J R _,ad _ _ _,J R _,J aH _,J R p.et,J R _,J R p.ir,J R p.hi,J R _,ad r.A _ r.c,dF _,aj _] 120,ah r.cC _ 5,jM r.e2 _,bp r.A _ r.c oe 2 _,lZ r.L,ah o _ 32]:=a;go_step;refine aF ?_;refine pl a 5 0 ?_;refine v2 ?_;refine ba a 0 (aj _) (λi' a=>?_);refine ak ?_;go_step;refine aF ?_;refine pl a 5 0 ?_;refine v3 ?_;refine pl a 0 6 ?_;refine pk (J R (R.wrap (p.ir+1))) ?_;refine v3 ?_;refine ba a 0 (J _ _) (λks a=>?_);refine ak ?_;go_step;refine aF ?_;refine ag ?_;refine ak ?_;replace a:ai _ _ _ (aO B r ({p with down:=aB,ir:=R.wrap (p.ir+1)})::[ah o _ 32]):=ai.vh aoY (a.pick (l':=_) [0,1,2,3,4,5]);go_wp2_with fail;go_ret;exact⟨by rw[l];rfl,r,by rw[l];show Turned _ _ _ (aO B r (IV d n b));rw[ah6];exact a.gj 0⟩
  .have C:=hid hbl;have l:Hid (jC d n b=(2,d)):=hid (by rw[jC,M,if_neg bj,if_pos hbl]);clear hbl;go_enter Va,Vx;have a:=ai.start V;go_step;refine aF ?_;refine bO a (ay _) (λo lf a=>?_);refine ag ?_;refine ak ?_;replace a:=a.front 1;replace a:=a.zG;obtain⟨hpl,a⟩:=a;replace a:ai _ _ _ [ah B #[J R _,ad _ _ _,J R _,J aH _,J R d.et,J R d.e0,J R d.ir,J R d.hi,J R d.cW,ad m.A _ m.c,dF _,aj _] 120,ah m.cC _ 5,jM m.e2 _,bp m.A _ m.c oe 2 _,lZ m.L,ah o #[ay _] 32]:=a;go_step;refine aF ?_;refine pl a 5 0 ?_;refine ag ?_;refine a7 (O _ (a.a1 0)) ?_;rintro e mm ⟨rfl,g⟩;replace a:=a.aI g;refine bb ?_;refine ag ?_;refine ak ?_;go_step;refine aF ?_;refine ag ?_;refine pk (aj au) ?_;refine ak ?_;go_step;refine aF ?_;refine v2 ?_;refine pl a 5 0 ?_;refine v3 ?_;refine pl a 0 0 ?_;refine aJ (aj aB) (by(have h:=C.out;go_simp;first|omega|omega)) ?_;refine ak ?_;go_step;refine aF ?_;refine ag ?_;refine ak ?_;replace a:ai _ _ _ (aO B m d::[ah o _ 32]):=ai.vh hpl (a.pick (l':=_) [0,1,2,3,4,5]);go_wp2_with fail;go_ret;exact⟨by rw[l];rfl,m,by rw[l];exact a.gj 0⟩
 .have qC:=h0;have l:Hid (jC d i b=(bq,d)):=hid (by grind[jC]);clear G;go_enter Va,Vx;have a:=ai.start V;go_step;refine aF ?_;refine bO a (ay _) (λo nU a=>?_);refine ag ?_;refine ak ?_;replace a:=a.front 1;replace a:=a.zG;obtain⟨hpl,a⟩:=a;replace a:ai _ _ _ [ah B #[J R _,ad _ _ _,J R _,J aH _,J R d.et,J R d.e0,J R d.ir,J R d.hi,J R d.cW,ad m.A _ m.c,dF _,aj _] 120,ah m.cC _ 5,jM m.e2 _,bp m.A _ m.c oe 2 _,lZ m.L,ah o #[ay _] 32]:=a;go_step;refine aF ?_;refine pl a 5 0 ?_;refine ag ?_;refine a7 (O _ (a.a1 0)) ?_;rintro e pa ⟨rfl,g⟩;replace a:=a.aI g;refine bb ?_;refine ag ?_;refine ak ?_;go_step;refine aF ?_;refine ag ?_;refine aJ (aj aB) (by(go_simp;try simp[qC])) ?_;refine ak ?_;go_step;refine aF ?_;refine v2 ?_;refine ak ?_;replace a:ai _ _ _ (aO B m d::[ah o _ 32]):=ai.vh hpl (a.pick (l':=_) [0,1,2,3,4,5]);go_wp2_with fail;go_ret;exact⟨by rw[l];rfl,m,by rw[l];exact a.gj 0⟩
section
section
variable {P:Program} {o:Oper} {a:Act} {w:World}
def aqF n:FP #[a' 0] n=aY a' (fu n 0) []:=by
 apply Array.ext;·simp[FP,aY]
 grind[FP,aY]
def Ta{t e:Nat}{x y}(n:Nat)(c:o.op=.makeSlice t x y)(hx:a.eval x=J R (n:Int))(f:a.eval y=J R (n:Int))(d:P.underlying t=ab (.slice e))(hi:(P.info? e).map (λi=>(i.zero,i.size,i.bytes))=ab (ab (a' 0),1,1))(j:n<=1073741824):
 ∃B w',(bw a.eval o).run P w=.ok (c8 (ad (ab ⟨B,0,af⟩) n n)) w'/\b5 w w' (ah B (aY a' (fu n 0) []) e):=by
 cases hq:P.info? e with
 |none=>grind
 |some i=>
  rw[hq]at hi;simp only[Option.map_some,wC,Prod.mk.injEq]at hi;obtain⟨h1,b,g⟩:=hi;have h:=run_make (P:=P) w t e i (a' 0) d hq h1 R R (n:Int) (n:Int) ae (Int.le_refl _) aG ae;refine⟨_,_,?_,x3 (aq.alloc _ _) (heap_alloc_new w _) (cp _)⟩;rw[b,Nat.mul_one]at h;have hc:(a' 0).cells=#[a' 0]:=rfl;rw[hc,Int.toNat_natCast,aqF]at h;unfold bw;simp only[c,hx,f,gl,h,ji,jR]
def arv{t:Nat}(c:o.op=.makeMap t af):∃B w',(bw a.eval o).run P w=.ok (c8 (dF (ab B))) w'/\b5 w w' (jM B []):=by
 refine⟨w.heap.size,w.alloc (.map #[] 0),?_,aq.alloc _ _,⟨[],dZ.made w DX db,cp _,λ_=>rfl⟩,λb hb=>?_⟩;·grind[bw,gl,run_makeMap,ji,jR]
 .have e:b=w.heap.size:=hb;rw[e];simp
def adY {d p} {c j g B off f cap m c2 t:Nat} {aK old new cs} (l:o.op=.call {callee:=.builtin .copy,args:=#[d,p],argTypes:=#[c,j]}) (k:a.eval d=ad (ab ⟨B,off,af⟩) f cap) (n:a.eval p=ad aK m c2) (h:aX w B old t) (hr:Cells w 1 aK m cs) (s:m<=f)
 (o0:off+m<=old.size) (h1:∀v∈cs,v.oneCell'=aB) (lS:(old.toList.take off++cs++old.toList.drop (off+cs.length)).toArray=new) (hu:P.underlying c=ab (.slice g)) (hs:(P.info? g).map (·.size)=ab 1):
 ∃w',(bw a.eval o).run P w=.ok (c8 (J R (m:Int))) w'/\Turned w w' (ah B old t) (ah B new t):=by
 have hcs:cs.length=m:=by simpa using hr.1
 rcases Nat.eq_zero_or_pos m with i|i
 .subst i;obtain rfl:cs=[]:=List.eq_nil_of_length_eq_zero hcs;have e:new=old:=by rw[<-lS];simp
  subst e;have hc:=run_copy_none (P:=P) w c j o.type g (ab ⟨B,off,af⟩) aK f cap 0 c2 hu hs (Nat.zero_min _);refine⟨w,?_,Turned.refl ⟨h,λb hb=>by have e:b=B:=hb;rw[e];exact aX.lt h⟩⟩;unfold bw;simp only[l,resolve,invoke,builtin,gl,jR,ji,ob,jx,kC,k,n,hc];rfl
 .obtain⟨q,rfl,r⟩:=hr.2 i;have hr:=run_copy_row (P:=P) w c j o.type g B off f cap q m c2 old t cs hu hs h aG r ae h1;refine⟨w.setRow B (old.toList.take off++cs++old.toList.drop (off+m)).toArray,?_,vd (aq.setRow w B _) ?_⟩;·unfold bw;simp only[l,resolve,invoke,builtin,gl,jR,ji,ob,jx,kC,k,n,hr,hcs];rfl
  .rw[<-lS,hcs];exact h.setRow _
end
def ig(bs:List Int)(off:Nat)(b:List Int):List Int:=bs.take off++b++bs.drop (off+b.length)
theorem Ai{bs b off}(h:off+b.length<=bs.length):(ig bs off b).length=bs.length:=by grind[ig]
def Xs{bs b off}:((aY a' bs []).toList.take off++b.map a'++(aY a' bs []).toList.drop (off+(b.map a').length)).toArray=aY a' (ig bs off b) []:=by simp[aY,ig]
def qM(size cnt:Nat)(b:List Int):dM:={size:=size,cnt:=cnt,bytes:=ig (fu (size*cnt) 0) 0 b,writes:=-1,keep:=0,et:=0,e0:=0,ir:=0,hi:=0,cW:=0,cache:=[],down:=au}
def acq{size cnt b}(h1:1<=size)(a:1<=cnt)(c:size*cnt<=1048576)(hb:b.length<=size*cnt):dS (qM size cnt b):=
 ⟨h1,a,by show(ig _ 0 b).length=cnt*size;grind[Ai],by show cnt*size<=_;rw[Nat.mul_comm];exact c,λx hx=>absurd hx gb,Nat.zero_le _,by unfold db;show _<=(-1:Int)/\(-1:Int)<=_;omega⟩
def al1(size cnt p:Nat)A c b w(h1:1<=size)(f:1<=cnt)(o:size*cnt<=1048576)(hbl:b.length<=size*cnt)(s:w.cell? ⟨p,0,af⟩=ab (ad A b.length c))(hb:bT w A b):
 aD ax 94 #[J R (size:Int),J R (cnt:Int),ad (ab ⟨p,0,af⟩) 1 1] w λe w'=>∃B m,e=aA (di B)/\b5 w w' (aO B m (qM size cnt b)):=by
 have hz1:size<=size*cnt:=Nat.le_mul_of_pos_right _ f;have hz2:cnt<=size*cnt:=Nat.le_mul_of_pos_left _ h1;obtain⟨q,d⟩:=ex (1048576/cnt);have H:size<=q:=by rw[<-d];exact(Nat.le_div_iff_mul_le f).2 o
 have G:q<=1048576:=by rw[<-d];exact Nat.div_le_self _ _
 obtain⟨N,i⟩:=ex (size*cnt);have r:(size:Int)*(cnt:Int)=(N:Int):=ae;have E:=hid i;have z:=hid d;rw[i]at o hbl hz1 hz2;clear d i;have y:Hid (∀W,ao w W->aD ax 93 #[ad (ab ⟨p,0,af⟩) 1 1] W λe w'=>∃j n,e=aA (ad j b.length n)/\w'.ownsRow W.heap.size 5 1 (ad j b.length n) b.length (b.map a')/\ao W w'):=hid (λW g=>GM p A c b W (g.cell s (λh=>h)) (hb.aI g) ae);clear s hb;go_enter func94,ntmps94;have a:=bg w;go_upto_region 0 with fail;refine wp_region_lit ?_;refine cK ?_;refine a7 (y.out _ a.only) ?_;rintro e w1 ⟨D,F,rfl,hrow,g⟩;replace a:=a.js g (Row.nS hrow);refine bb ?_;refine ku ?_;refine aJ (J R (min (size:Int) (cnt:Int))) (by(go_simp;try with_reducible rfl)) ?_;refine cd (aj au) ?_;refine v3 ?_;refine aJ _ (Bl 3 _ _ 3 aa _ cnt q aa aa f z.out ae) ?_;refine cd (aj au) ?_;refine pk (aj au) ?_;refine v5 ?_;refine aJ _ (nE 3 _ _ 3 aa _ _ _ aa aa r ae ae) ?_;refine cd (aj au) ?_;refine pk (aj au) ?_;refine jt ?_;refine aJ (J R (N:Int)) (nE 3 (.tmp 30) (.tmp 31) 3 aa ((size:Int)) ((cnt:Int)) (N:Int) aa aa r ae ae) ?_;refine Im a (Ta N aa aa aa dJ aw ae) (λk I a=>?_);refine v2 ?_;refine Im a (arv aa) (λl K a=>?_);refine ag ?_;refine bO a (.agg #[J R (size:Int),ad (ab ⟨k,0,af⟩) N N,J R (-1),J aH 0,J R 0,J R 0,J R 0,J R 0,J R 0,ad af 0 0,dF (ab l),aj au]) (λt L a=>?_);refine AF ?_;refine pl a 0 1 ?_;refine ag ?_;refine Cp a 2 (adY aa aa aa (a.a1 2) (a.lr 3).1.cells ae (by grind[j7]) (vG _) (show _=aY a' (ig (fu N 0) 0 b) []from Xs) dJ aw) (λC a=>?_);refine aF ?_;refine dQ ?_;replace a:=(a.new (lZ []) ⟨aq.refl _ _,λx hx=>absurd hx gb,λb ⟨x,hx,_⟩=>absurd hx gb⟩).new (bp af 0 0 oe 2 []) ⟨aq.refl _ _,Row.nil _ _ _ _,λb ⟨_,_,e⟩=>aG⟩;have hlen:(ig (fu N 0) 0 b).length=N:=by grind[Ai]
 have u:=a.pk [2,4,3,0,1];have e:qM size cnt b={size:=size,cnt:=cnt,bytes:=ig (fu N 0) 0 b,writes:=-1,keep:=0,et:=0,e0:=0,ir:=0,hi:=0,cW:=0,cache:=[],down:=au}:=by grind[qM]
 have v:ai w (λ_=>False) C [aO t ⟨k,l,af,0,[]⟩ (qM size cnt b)]:=by rw[e];refine ai.vh aa ?_;show ai _ _ _ (ah _ #[_,ad _ (ig (fu N 0) 0 b).length (ig (fu N 0) 0 b).length,_,_,_,_,_,_,_,_,_,_] _::_);rw[hlen];exact u
 go_wp2_with fail;go_ret;exact⟨_,_,aa,v.fresh 0⟩
end
end Go.Proofs.YtcmhplknoglbkaaGreat
