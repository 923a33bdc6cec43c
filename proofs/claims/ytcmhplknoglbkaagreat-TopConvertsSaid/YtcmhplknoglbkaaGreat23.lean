/- Part 23 of the proof of TopConvertsSaid. -/
import Derived.Test.YtcmhplknoglbkaaGreat0
import Derived.Test.YtcmhplknoglbkaaGreat5
import Derived.Test.YtcmhplknoglbkaaGreat6
import Derived.Test.YtcmhplknoglbkaaGreat16
import Derived.Test.YtcmhplknoglbkaaGreat17
import Derived.Test.YtcmhplknoglbkaaGreat22
set_option linter.all false
set_option maxRecDepth 100000
set_option maxHeartbeats 4000000
open Go.Proofs.Tryz
open Bool renaming false->au,true->aB
open Go renaming Calls->aD,bodyPost_ret->dp,results_cell_row->je,results_tmp->OU,wpList_nil->ak,wp_region_lit->ar
open Go.Ending renaming returned->aA
open Go.IntKind renaming bits->C2,i64->R,u64->aH,u8->ea,wrap->C3
open Go.Proofs.Tryz renaming func116->af5,func199->UX,func358->agF,ntmps116->agT,ntmps199->Vq,prog->ax,underlying22->dJ,underlying35->AR,underlying5->lj
open Go.RowKit renaming Hid->aE,intOf->cx
open Go.Value renaming agg->av,bool->aj,int->J,pointer->ay,slice->ad,tuple->bh
open List renaming length_cons->jT,map_cons->jx,map_nil->kC,map_toArray->ob
open Min renaming min->gX
open Nat renaming add_div_right->Xg,div_eq_of_lt->Xh,div_le_div_right->ajm,div_le_self->zr,le_refl->cp,le_trans->eD,sub_le->Gv,zero_le->cQ
open Option renaming none->af,some->ab
open Or renaming inr->b3
open Prod.mk renaming injEq->oc
namespace Go.Proofs.YtcmhplknoglbkaaGreat
open Go.RowKit Go.MapKept
def qO(s:Nat):Nat->Nat->Nat->List (Int×Int)
 |0,_,_=>[]
 |f+1,o,n=>if n=0 then[]else((o:Int),((gX s n:Nat):Int))::qO s f (o+gX s n) (n -gX s n)
def hQ(s o n:Nat):List (Int×Int):=qO s n o n
theorem Tn s(a:0<s):∀f o n,n<=f->(qO s f o n).length<=(n+s -1)/s
 |0,o,n,h=>cQ _
 |f+1,o,n,h=>by
  unfold qO;split;·simp
  .rename_i c;have d:=Tn s a f (o+gX s n) (n -gX s n) ae;rw[jT]
   have h1:(n+s -1)/s=(n -gX s n+s -1)/s+1:=by
    by_cases b:n<=s;·rw[Nat.min_eq_right b,Nat.sub_self,show 0+s -1=s -1 by omega,Xh (by omega:s -1<s),show n+s -1=(n -1)+s by omega,Xg _ a,Xh ae]
    .rw[Nat.min_eq_left ae,show n+s -1=(n -s+s -1)+s by omega,Xg _ a]
   omega
def aso(o n s:Nat)w:
 aD ax 324 #[gJ ((o:Int),(n:Int)),J R (s:Int)] w λe w'=>∃b bZ,e=aA (.func (.func 358) #[] #[ay (ab ⟨b,0,af⟩),ay (ab ⟨bZ,0,af⟩)])/\b5 w w' (both (ah b #[J R (o:Int),J R (n:Int)] 35) (ah bZ #[J R (s:Int)] 3)):=by
 go_enter func324,ntmps324;have a:=bg w;go_step;refine aF ?_;refine bO a (av #[J _ (o:Int),J _ (n:Int)]) (λc w1 a=>?_);refine bO a (J _ _) (λd f a=>?_);refine ag ?_;refine aF ?_;refine dQ ?_;go_wp2_with fail;go_ret;exact⟨_,_,aa,((a.pick (l':=[ah _ _ 35,ah _ _ 3]) [1,0]).star).fresh 0⟩
def H8(b:Nat)(w:World):Nat:=match w.cell? ⟨b,1,af⟩with|some v=>(cx v).toNat|none=>0
def ab4{b w v}{n:Nat}{t}(h:aX w b #[v,J R (n:Int)] t):H8 b w=n:=by unfold H8;rw[aX.cell h 1 aa];simp[cx]
theorem asn(o n s:Nat)(I:0<s/\(s:Int)<=4611686018427387903)(H:((o+n:Nat):Int)<=4611686018427387903)(g bZ)an FX:
 xZ ax 358 #[ay (ab ⟨g,0,af⟩),ay (ab ⟨bZ,0,af⟩)] (λe:Int×Int=>#[gJ e]) an FX (both (ah g #[J R (o:Int),J R (n:Int)] 35) (ah bZ #[J R (s:Int)] 3)) (λ_=>True) (hQ s o n):=by
 intro l S N W F t r u a;go_enter agF,ntmps358;replace a:=a.fi;obtain⟨xs,j⟩:=ex (hQ s o n);rw[j]at r⊢;have hs1:=I;have Q:=H;go_wp2_with fail;go_loopw [] (λwr=>∃(i c d:Nat) (pre:List (Int×Int)) (t:bu),pre++qO s d i c=xs/\c<=d/\i+c=o+n/\S pre t/\ai an FX wr [ah g #[J R (i:Int),J R (c:Int)] 35,ah bZ #[J R (s:Int)] 3,t,F]) (λwr=>H8 g wr);case atStart=>exact⟨o,n,n,[],t,j,cp _,aa,u,a⟩
 case round=>
  clear a j u;obtain⟨i,c,d,pre,t,j,O,T,v,a⟩:=hrel;have E:=a.a1 0;by_cases hlt:0<c
  .have D:(0:Int)<(c:Int):=ae;obtain⟨m,w⟩:=ex (gX s c);have P:0<m/\m<=c:=ae;have x:gX (s:Int) (c:Int)=(m:Int):=ae;obtain⟨d,rfl⟩:∃f,d=f+1:=⟨d -1,ae⟩;have p:(pre++[((i:Int),(m:Int))])++qO s d (i+m) (c -m)=xs:=by grind[qO]
   have y:pre++[((i:Int),(m:Int))]<+:xs:=⟨_,p⟩;have A:=hid x;have B:=hid p;have L:=hid w;have M:=hid j;clear w x j p;go_step;refine aF ?_;refine ag ?_;refine pl a 0 1 ?_;refine dR ?_;refine pl a 1 0 ?_;refine ag ?_;refine pl a 0 1 ?_;refine dt A (J R (m:Int)) ?_;refine ih ?_;refine Nc 5 ?_;refine v2 ?_;refine pl a 0 0 ?_;refine dQ ?_;have q:=(a.pick (l':=[t,ah g _ 35,ah bZ _ 3,F]) [2,0,1,3]).GG;refine IU (r _ _ _ _ _ y v q) (λb w1 hb=>?_) (λ_ _ C=>C.elim (λh=>⟨_,h.1⟩) (λh=>⟨_,h.1⟩)) (GX aa aa (by simp only[ob,jx,kC];rfl));clear q a;rcases II hb with⟨rfl,z,k,a⟩|⟨rfl,z,k,a⟩
   .clear hb;replace a:=a.xk;refine vF ?_;refine cK ?_;refine pl a 1 0 ?_;refine ag ?_;refine pad _ _ ((i+m:Nat):Int) ?_;refine ag ?_;refine ba a 1 (J _ _) (λU a=>?_);refine b6 ?_;refine pl a 1 1 ?_;refine ag ?_;refine mN _ _ ((c -m:Nat):Int) ?_;refine ag ?_;refine ba a 1 (J _ _) (λV a=>?_);refine ak ?_;have G:=a.a1 1;go_wp2_with fail;go_roundw;case rel=>exact⟨_,_,d,_,_,B,ae,ae,k,a.pick [1,2,0,3]⟩
    case measure=>(show H8 _ _<H8 _ _;rw[ab4 G,ab4 E];omega)
   .clear hb;replace a:=a.xk;refine vF ?_;refine bR ?_;go_wp2_with fail;first|go_end0|refine bodyPost_ret (results_none rfl _ _ _) rfl ?_
    exact vb.cut y k ((ai.bQ (l:=[ah g _ 35,ah bZ _ 3]) (a.pick (l':=[ah g _ 35,ah bZ _ 3,z,F]) [1,2,0,3])).pick [1,0,2])
  .have D:¬(0:Int)<(c:Int):=ae;obtain rfl:c=0:=ae;have K:pre=xs:=by rw[<-j];cases d<;>simp[qO]
   subst K;go_step;refine aF ?_;refine ag ?_;refine pl a 0 1 ?_;refine bR ?_;go_wp2_with fail;first|go_end0|refine bodyPost_ret (results_none rfl _ _ _) rfl ?_
   exact vb.all v trivial ((ai.bQ (l:=[ah g _ 35,ah bZ _ 3]) a).pick [1,0,2])
def qz(l:List (Int×Int)):List Value:=l.flatMap (λe=>[J R e.1,J R e.2])
theorem amN l e:qz (l++[e])=qz l++[J R e.1,J R e.2]:=by simp[qz]
def auu(o n s:Nat)(y:0<s/\(s:Int)<=4611686018427387903)(U:((o+n:Nat):Int)<=4611686018427387903)(V:(n+s -1)/s<=1048576)w:
 aD ax 289 #[gJ ((o:Int),(n:Int)),J R (s:Int)] w λe w'=>∃A c,e=aA (ad A (hQ s o n).length c)/\Row w.heap.size w' A (hQ s o n).length c 35 2 (qz (hQ s o n))/\ao w w':=by
 obtain⟨xs,q⟩:=ex (hQ s o n);have z:xs.length<=1048576:=by grind[Tn,hQ]
 have K:=hid q;have I:=hid z;have H:∀d bZ,xZ ax 358 #[ay (ab ⟨d,0,af⟩),ay (ab ⟨bZ,0,af⟩)] (λe:Int×Int=>#[gJ e]) w (λ_=>False) (both (ah d #[J R (o:Int),J R (n:Int)] 35) (ah bZ #[J R (s:Int)] 3)) (λ_=>True) xs:=λd bZ=>by grind[asn]
 obtain⟨B,k⟩:=ex ((n -1)/s);have r:=hid k;have X:B<=n:=by rw[<-k];exact eD (zr _ _) (Gv _ _)
 clear k;rw[q];clear q z;refine Bq func289 aa ?_;simp only[ntmps289,List.size_toArray,jT,List.length_nil,Array.replicate_succ,Array.replicate_zero,List.push_toArray,List.append_toArray,List.nil_append,List.cons_append];have a:=bg w;go_step;refine aF ?_;refine bO a (av #[J _ (o:Int),J _ (n:Int)]) (λC w1 a=>?_);refine ag ?_;refine ak ?_;by_cases L:n=0
 .subst L;have hx0:xs=[]:=by rw[<-K];rfl
  subst hx0;go_step;refine aF ?_;refine ag ?_;refine cd (aj au) ?_;refine v2 ?_;refine pl a 0 1 ?_;refine v3 ?_;iterate 6 refine ps ?_
  refine ag ?_;refine ak ?_;go_step;refine aF ?_;refine ag ?_;refine ak ?_;go_wp2_with fail;exact aqJ (OU aa _ _ _) ⟨_,0,aa,Row.nil _ _ _ _,a.only⟩
 .have T:¬(n:Int)=0:=ae;have G:aE (¬(1048576:Int)<=(B:Int)):=hid (by have h1:(n+s -1)/s=(n -1)/s+1:=(by rw[show n+s -1=(n -1)+s by omega,Xg _ y.1]);have M:=r.out;omega);go_step;refine aF ?_;refine ag ?_;refine cd (aj au) ?_;refine v2 ?_;refine pl a 0 1 ?_;refine cd (aj au) ?_;refine v3 ?_;refine pl a 0 1 ?_;refine mN _ 1 ((n -1:Nat):Int) ?_;refine ag ?_;refine aJ _ (Bl _ _ _ _ aa _ s _ aa aa y.1 r ae) ?_;refine aJ (aj au) (by(have h:=G.out;go_simp;try simp[h];try omega)) ?_;refine ag ?_;refine ak ?_;go_step;refine aF ?_;refine bA a #[ad _ 0 0] (λg Y a=>?_);refine ak ?_;go_step;refine aF ?_;refine bt a 1 #[J R (o:Int),J R (n:Int)] ?_;refine ag ?_;refine a7 (aso o n s _) ?_;rintro e Z ⟨d,bZ,rfl,N⟩;replace a:=a.new _ N;refine bb ?_;refine ak ?_;replace a:=a.new (bp _ 0 0 35 2 []) ⟨aq.refl _ _,Row.nil _ _ _ _,λb ⟨_,_,e⟩=>aG⟩;go_wp2_with fail;have v:ai _ _ _ [both _ _,bQ [ah g _ 176,bp af 0 0 35 2 []],bQ [ah C #[J R _,J R _] 35]]:=ai.DI (a.pick [1,2,0,3]);refine IT (encs:=(λe:Int×Int=>#[gJ e])) aa (enters_of agF aT aa) (λ_=>aa) (H d bZ) (λpre t=>∃A c,t=bQ [ah g #[ad A pre.length c] 176,bp A pre.length c 35 2 (qz pre)]) (λ_ _ _=>False) (⟨af,0,aa⟩) v ?_ ?_ ?_;all_goals clear v a
  .rintro l rd pre x W t F O P ⟨A,c,rfl⟩ a;replace a:=a.lE;repeat((fail_if_success (with_reducible refine at_region ?_));gi_step)
   refine ke ?_;refine bA a #[J _ 0,J _ 0] (λS cc a=>?_);refine ba a 0 (av _) (λcG a=>?_);refine ak ?_;first|refine wpIn_skip ?_|skip
   simp only[Exit.then];refine Bk a 3 P (λc6 a=>?_);replace a:ai _ _ _ [ah _ _ 35,ah _ _ _,bp A _ c 35 2 _,obj l _,F]:=a;have hpl:=O.length_le;rw[List.length_append,List.length_singleton]at hpl;have E:=hid hpl;clear hpl;repeat((fail_if_success (with_reducible refine at_region ?_));gi_step)
   refine ke ?_;refine pl a 1 0 ?_;refine bt a 0 #[J R x.1,J R x.2] ?_;refine ga a #[J R x.1,J R x.2] 35 (λQ dX a=>?_);refine np (m:=1) a 3 16 (aX.cellsOf (m:=1) (a.a1 0) aa) (by intro u p;simp only[List.mem_cons,List.not_mem_nil,or_false]at p;rcases p with rfl|rfl<;>rfl) (λf j dH a=>?_) (hby:=by have h1:=E.out;have M:=I.out;omega);refine ba a 2 (ad _ _ _) (λe9 a=>?_);refine ak ?_;repeat gi_step
   have i:=a.pk [2,3,4,5];replace i:ai _ _ _ [bQ [ah g #[ad f (pre.length+1) j] 176,bp f (pre.length+1) j 35 2 (qz pre++([J R x.1,J R x.2]))],obj l (.loop {rd with state:=.busy}),F]:=i.fC 2;refine⟨_,?_,i⟩;exact⟨f,j,by grind[amN]⟩
  .rintro D t u W ⟨A,c,rfl⟩ p a;replace a:=a.lE;replace a:=(a.pk [4,0,1,2,3]).lE;go_step;refine aF ?_;refine pl a 1 0 ?_;refine ag ?_;refine ak ?_;go_wp2_with fail;refine yF a 4 (λw' a=>⟨OU aa _ _ _,?_⟩);replace a:ai _ _ _ [ah _ _ 35,ah _ _ _,bp A _ c 35 2 _,u,obj D _]:=a;exact⟨A,c,aa,(a.fresh 2).row,a.only⟩
  .simp
def fh(s o n:Nat):Nat×Nat:=if n=0 then(0,0)else(o/s,(o+n -1)/s -o/s+1)
def l0(s o n i:Nat):Nat×Nat×Nat:=(i,max o (i*s),gX (o+n) (i*s+s) -max o (i*s))
def oF(s o n:Nat):List (Nat×Nat×Nat):=(List.range (fh s o n).2).map (λj=>l0 s o n ((fh s o n).1+j))
def ado{s o n i}(c:1<=s)(h1:(fh s o n).1<=i)(a:i<(fh s o n).1+(fh s o n).2):i*s<=(l0 s o n i).2.1/\o<=(l0 s o n i).2.1/\0<(l0 s o n i).2.2/\(l0 s o n i).2.1+(l0 s o n i).2.2<=o+n/\(l0 s o n i).2.1+(l0 s o n i).2.2<=i*s+s:=by
 unfold fh at h1 a;by_cases b:n=0;·grind
 .rw[if_neg b]at h1 a;simp only at h1 a;have d:=by have:=Nat.lt_succ_of_le h1;have:=(Nat.div_lt_iff_lt_mul c).1 this;rw[Nat.succ_mul]at this;exact this
  have e:i<=(o+n -1)/s:=by have:o/s<=(o+n -1)/s:=ajm ae;omega
  grind[Nat.le_div_iff_mul_le,l0]
def asB{s o n}(b:1<=s){x}(hx:x∈oF s o n):x=l0 s o n x.1/\(fh s o n).1<=x.1/\x.1<(fh s o n).1+(fh s o n).2:=by obtain⟨j,a,rfl⟩:=List.mem_map.1 hx;rw[List.mem_range]at a;exact⟨aa,by show _<=(fh s o n).1+j;omega,by show(fh s o n).1+j<_;omega⟩
def adm{a:Type}{pre xs}{x:a}(h:pre++[x]<+:xs):x∈xs:=h.subset (List.mem_append_right _ (List.mem_singleton.2 aa))
def ad6(s o n:Nat)(f:1<=s/\s<=1125899906842624)(p:o+n<=1125899906842624)w:
 aD ax 116 #[J R (s:Int),gJ ((o:Int),(n:Int))] w λe w'=>e=aA (gJ (((fh s o n).1:Int),((fh s o n).2:Int)))/\ao w w':=by
 by_cases l:n=0;·subst l;have e:fh s o 0=(0,0):=rfl;rw[e];go_enter af5,agT;have c:=bg w;go_step;refine aF ?_;refine bO c (av #[J _ (o:Int),J _ ((0:Nat):Int)]) (λg w1 c=>?_);refine bA c #[J _ 0,J _ 0] (λh r c=>?_);refine b6 ?_;refine cd (aj au) ?_;refine ag ?_;refine bt c 1 #[J R (o:Int),J R ((0:Nat):Int)] ?_;refine bC (xm (o:Int) ((0:Nat):Int) _ ⟨ae,ae,ae⟩) c (λt c=>?_);refine v4 ?_;refine pl c 1 1 ?_;refine pk (aj aB) ?_;refine cK ?_;refine ba c 0 (av #[J R 0,J R 0]) (λu c=>?_);refine ak ?_;go_wp2_with fail;refine dp (v:=_) (je aa _ _ _ _ _ _ _ aa (c.a1 0) AR aa aw) aa (⟨aa,c.only⟩)
 .obtain⟨a,d⟩:=ex (o/s);obtain⟨b,hb⟩:=ex ((o+n -1)/s);have hab:a<=b:=by rw[<-d,<-hb];exact ajm ae
  have m:b<=o+n:=by rw[<-hb];exact eD (zr _ _) (Gv _ _)
  have e:fh s o n=(a,b -a+1):=by grind[fh]
  rw[e];have j:=hid d;have k:=hid hb;clear d hb e;go_enter af5,agT;have c:=bg w;go_step;refine aF ?_;refine bO c (av #[J _ (o:Int),J _ (n:Int)]) (λg x c=>?_);refine bA c #[J _ 0,J _ 0] (λh y c=>?_);refine b6 ?_;refine cd (aj au) ?_;refine ag ?_;refine bt c 1 #[J R (o:Int),J R (n:Int)] ?_;refine bC (xm (o:Int) (n:Int) _ ⟨ae,ae,ae⟩) c (λz c=>?_);refine v4 ?_;refine pl c 1 1 ?_;refine cd (aj au) ?_;refine ih ?_;refine bP c [5] (λi _=>match i with|5=>J R ((o:Int)+(n:Int))|_=>undef) (λ_ _=>emp) (λ_=>[]) (λ|1=>[1]|4=>[1]|_=>[]) (λ_=>[]) [0,1,7] (λq=>?_);refine aL ?_;refine dl 0 0 ?_;refine aL ?_;refine aM _ (λ_ _ _=>Bl _ _ _ _ aa o s a aa aa f.1 j ae) ?_;refine eb 0 #[J R (o:Int),J R (n:Int)] ?_;refine dE (λ_ _ _=>lN (o:Int) (n:Int) _ ae ae ae) ?_;refine aM _ (λ_ _ _=>pH 3 _ _ 3 aa _ 1 ((o+n -1:Nat):Int) aa aa ae ae ae) ?_;refine aL ?_;refine aM _ (λ_ _ _=>Bl _ _ _ _ aa _ s b aa aa f.1 k ae) ?_;refine br ?_;refine bS λA c=>?_;replace c:=c.drop 2;refine jt ?_;refine mN (b:Int) (a:Int) ((b -a:Nat):Int) ?_;refine pad _ 1 ((b -a+1:Nat):Int) ?_;refine ag ?_;refine ba c 0 (av #[J R _,J _ ((b -a+1:Nat):Int)]) (λB c=>?_);refine ak ?_;go_wp2_with fail;refine dp (v:=_) (je aa _ _ _ _ _ _ _ aa (c.a1 0) AR aa aw) aa (⟨aa,c.only⟩)
def YV B m d(o n)w(hb:aX w B (pL m d) 120)(b:dS d)(g:o+n<=d.bytes.length):
 aD ax 207 #[di B,gJ ((o:Int),(n:Int))] w λe w'=>e=aA (J R 0)/\ao w w':=by
 have c:=b.len;have hsm:=b.small;obtain⟨q,f⟩:=ex (d.cnt*d.size);have hc1:=b.Bs;have h:(d.size:Int)*(d.cnt:Int)=(q:Int):=by rw[<-f,Nat.mul_comm,Int.natCast_mul]
 rw[f]at c hsm;rw[c]at g;clear f c;go_enter func207,ntmps207;have a:=bg w;go_step;refine aF ?_;refine bO a (av #[J _ (o:Int),J _ (n:Int)]) (λi w1 a=>?_);refine cK ?_;refine pk (aj au) ?_;refine dR ?_;refine bt a 0 #[J R (o:Int),J R (n:Int)] ?_;refine bC (xm (o:Int) (n:Int) _ ⟨ae,ae,ae⟩) a (λj a=>?_);refine v2 ?_;refine bt a 0 #[J R (o:Int),J R (n:Int)] ?_;refine bC (lN (o:Int) (n:Int) _ ae ae ae) a (λk a=>?_);refine ag ?_;refine bC (wK B m d _ (aX.aI hb a.only) b) a (λl a=>?_);refine ag ?_;refine bC (KP B m d _ (aX.aI hb a.only) b) a (λp a=>?_);refine aJ _ (nE 3 _ _ 3 aa _ _ _ aa aa h ae ae) ?_;refine cd (aj au) ?_;refine v2 ?_;refine aF ?_;refine ag ?_;refine ak ?_;go_wp2_with fail;go_ret;exact⟨aa,a.only⟩
def ac5(s o n:Nat)w:
 aD ax 208 #[J R (s:Int),gJ ((o:Int),(n:Int))] w λe w'=>∃bZ b,e=aA (.func (.func 280) #[] #[ay (ab ⟨bZ,0,af⟩),ay (ab ⟨b,0,af⟩)])/\b5 w w' (both (ah bZ #[J R (s:Int)] 3) (ah b #[J R (o:Int),J R (n:Int)] 35)):=by
 go_enter func208,ntmps208;have a:=bg w;go_step;refine aF ?_;refine bO a (J _ _) (λc w1 a=>?_);refine bO a (av #[J _ (o:Int),J _ (n:Int)]) (λd f a=>?_);refine ag ?_;refine aF ?_;refine dQ ?_;go_wp2_with fail;go_ret;exact⟨_,_,aa,((a.pick (l':=[ah _ _ 3,ah _ _ 35]) [1,0]).star).fresh 0⟩
theorem ac4(s o n:Nat)(w:1<=s/\s<=1125899906842624)(hn:o+n<=1125899906842624)(bZ f)an FX:
 xZ ax 280 #[ay (ab ⟨bZ,0,af⟩),ay (ab ⟨f,0,af⟩)] (λx:Nat×Nat×Nat=>#[J R (x.1:Int),gJ ((x.2.1:Int),(x.2.2:Int))]) an FX (both (ah bZ #[J R (s:Int)] 3) (ah f #[J R (o:Int),J R (n:Int)] 35)) (λ_=>True) (oF s o n):=by
 intro l S gO W F t D E a;obtain⟨xs,Q⟩:∃xs,oF s o n=xs:=⟨_,aa⟩;rw[Q]at D⊢;obtain⟨c,H⟩:∃x,(fh s o n).1=x:=⟨_,aa⟩;obtain⟨d,G⟩:∃x,(fh s o n).2=x:=⟨_,aa⟩;have P:xs.length=d:=by grind[oF]
 have O:∀j,j<d->xs[j]?=ab (l0 s o n (c+j)):=λj I=>by grind[oF]
 have u:∀j,j<d->(c+j)*s<=(l0 s o n _).2.1/\o<=(l0 s o n _).2.1/\0<(l0 s o n _).2.2/\(l0 s o n _).2.1+(l0 s o n _).2.2<=o+n/\(l0 s o n _).2.1+(l0 s o n _).2.2<=(c+j)*s+s:=λj I=>ado w.1 ae ae
 have mb:c+d<=1125899906842625:=by
  rcases Nat.eq_zero_or_pos d with h|h;·grind[fh]
  .have h1:=u (d -1) ae;have h2:c+(d -1)<=(c+(d -1))*s:=Nat.le_mul_of_pos_right _ w.1;omega
 have Y:aE (∀W,aD _ _ #[J _ _,av #[J _ (o:Int),J _ (n:Int)]] W λe w'=>e=aA (av #[J _ (c:Int),J _ (d:Int)])/\ao W w'):=hid (λW=>by have h:=ad6 s o n w hn W;rw[H,G]at h;exact h);have wv:=hid P;have Z:=hid O;have X:=hid u;clear Q H G P O u;go_enter Tryz.func280,ntmps280;replace a:=a.fi;go_step;refine aF ?_;refine pl a 0 0 ?_;refine bt a 1 #[J R (o:Int),J R (n:Int)] ?_;refine a7 (Y _) ?_;rintro e w1 ⟨rfl,g⟩;replace a:=a.aI g;refine bb ?_;refine bA a #[J _ 0,J _ 0] (λA aS a=>?_);refine ba a 0 (av _) (λbN a=>?_);refine ak ?_;go_step;refine aF ?_;refine ag ?_;refine pl a 0 0 ?_;refine ag ?_;refine ak ?_;replace a:=a.pick (l':=[ah bZ _ 3,ah f _ 35,ah _ _ 35,t,F]) [1,2,0,3,4];go_wp2_with fail;go_loopw [5] (λz wr=>∃(j:Nat) (t:bu),j<=d/\z=J R ((c+j:Nat):Int)/\S (xs.take j) t/\ai an FX wr [ah bZ #[J R (s:Int)] 3,ah f #[J R (o:Int),J R (n:Int)] 35,ah A #[J R (c:Int),J R (d:Int)] 35,t,F]) (λz wr=>c+d -(cx z).toNat);case atStart=>exact⟨0,t,cQ _,aa,E,a⟩
 case round=>
  clear a E;obtain⟨j,t,I,rfl,p,a⟩:=hrel;by_cases hlt:j<d
  .have hx:=Z j hlt;have M:=X j hlt;have y:xs.take (j+1)=xs.take j++[l0 s o n (c+j)]:=by grind[List.take_add_one]
   have v:xs.take j++[l0 s o n (c+j)]<+:xs:=aG;obtain⟨cd,k⟩:∃x,(l0 s o n (c+j)).2.1=x:=⟨_,aa⟩;obtain⟨i,hpl⟩:∃x,(l0 s o n (c+j)).2.2=x:=⟨_,aa⟩;have N:l0 s o n (c+j)=(c+j,cd,i):=by rw[<-k,<-hpl];rfl
   rw[k,hpl]at M;obtain⟨m,r⟩:∃x,(c+j)*s=x:=⟨_,aa⟩
   have L:kM ((o:Int),(n:Int)) ((m:Int),(s:Int))=((cd:Int),(i:Int)):=by have bD:max o _=cd:=k;have fH:gX _ _ -max o _=i:=hpl;rw[r]at bD fH;unfold kM;simp only;rw[if_pos ae];rw[oc];exact⟨ae,ae⟩
   rw[r]at M;have rS:((c+j:Nat):Int)*(s:Int)=(m:Int):=ae;obtain⟨w7,K⟩:∃b,meets ((o:Int),(n:Int)) ((m:Int),(s:Int))=b:=⟨_,aa⟩;have V:aE (∀W,aD ax 202 _ W λe w'=>e=aA (bh #[av #[J R (cd:Int),J R (i:Int)],aj w7])/\ao W w'):=hid (λW=>by have h:=Mw (o:Int) (n:Int) (m:Int) (s:Int) W ⟨ae,ae,ae⟩ ⟨ae,ae,ae⟩;rw[L,K]at h;exact h);rw[N]at v y;have C:=hid v;have PR:=hid y;clear hx y v k hpl N r L K;go_step;refine aF ?_;refine ag ?_;refine bt a 2 #[J R (c:Int),J R (d:Int)] ?_;refine a7 (lN (c:Int) (d:Int) _ ae ae ae) ?_;rintro e cc ⟨rfl,g⟩;replace a:=a.aI g;refine bb ?_;refine aJ (aj aB) (by(go_simp;try omega)) ?_;refine ak ?_;go_step;refine aF ?_;refine bt a 1 #[J R (o:Int),J R (n:Int)] ?_;refine ag ?_;refine pl a 0 0 ?_;refine aJ _ (nE 3 _ _ 3 aa _ _ _ aa aa rS ae ae) ?_;refine pl a 0 0 ?_;refine ag ?_;refine a7 (V _) ?_;rintro e cG ⟨rfl,g⟩;replace a:=a.aI g;refine bb ?_;iterate 3 refine ag ?_
   refine bA a #[J _ 0,J _ 0] (λU c6 a=>?_);refine ba a 0 (av _) (λdX a=>?_);refine ag ?_;refine ak ?_;go_step;refine dh ?_;refine Nc 3 ?_;iterate 2 refine ag ?_
   refine bt a 0 #[J R (cd:Int),J R (i:Int)] ?_;refine ak ?_;have B:=(a.pick (l':=[t,ah U _ 35,ah bZ _ 3,ah f _ 35,ah A _ 35,F]) [4,0,1,2,3,5]).GG;refine IU (D _ _ _ _ _ C p B) (λb dH hb=>?_) (λ_ _ he=>he.elim (λh=>⟨_,h.1⟩) (λh=>⟨_,h.1⟩)) (GX aa aa (by simp only[ob,jx,kC];rfl));clear B a;rcases II hb with⟨rfl,T,q,a⟩|⟨rfl,T,q,a⟩
   .clear hb;replace a:=a.xk;refine vF ?_;refine ag ?_;refine ak ?_;go_step;refine aF ?_;refine ag ?_;refine aJ _ (lK 3 _ _ 3 aa _ 1 ((c+(j+1):Nat):Int) aa aa ae ae ae) ?_;refine ag ?_;refine ak ?_;go_wp2_with fail;go_roundw;case rel=>exact⟨j+1,_,ae,aa,by rw[PR.out];exact q,a.pick [2,3,4,0,5]⟩
    case measure=>grind[cx]
   .clear hb;replace a:=a.xk;refine vF ?_;refine ag ?_;refine ak ?_;go_wp2_with fail;first|go_end0|refine bodyPost_ret (results_none rfl _ _ _) rfl ?_
    exact vb.cut C q ((ai.bQ (l:=[ah bZ _ 3,ah f _ 35]) (a.pick (l':=[ah bZ _ 3,ah f _ 35,T,F]) [2,3,0,5])).pick [1,0,2])
  .obtain rfl:d=j:=ae;have SA:=List.take_of_length_le (by rw[wv];exact cp _);rw[SA]at p;go_step;refine aF ?_;refine ag ?_;refine bt a 2 #[J R (c:Int),J R (d:Int)] ?_;refine a7 (lN (c:Int) (d:Int) _ ae ae ae) ?_;rintro e e9 ⟨rfl,g⟩;replace a:=a.aI g;refine bb ?_;refine aJ (aj au) (by(go_simp;try omega)) ?_;refine ak ?_;go_wp2_with fail;first|go_end0|refine bodyPost_ret (results_none rfl _ _ _) rfl ?_
   exact vb.all p trivial ((ai.bQ (l:=[ah bZ _ 3,ah f _ 35]) (a.pick (l':=[ah bZ _ 3,ah f _ 35,t,F]) [0,1,3,4])).pick [1,0,2])
structure Rec where
 seq:Int
 id:Int
 cur:Int
 off:Int
 data:List Int
abbrev recC(r:Rec)(A:Option Addr)(c:Nat):Array Value:=#[J aH r.seq,J aH r.id,J R r.cur,J R r.off,ad A r.data.length c]
abbrev MJ:Array Value:=#[J aH 0,J aH 0,J R 0,J R 0,ad af 0 0]
def kc(n:Int):Int:=if n<0\/n>1048576 then 0 else 40+n+4
def aua n:0<=kc n/\kc n<=1048620/\(kc n≠0->44<=kc n):=by grind[kc]
def sU:List Int:=[71,74,82,49]
structure ai4 where
 ok:Bool
 seq:Int
 id:Int
 cur:Int
 off:Int
 cnt:Int
 r:Rd
def Hl(f:Rd):ai4:=
 let e:=rJ f sU 19
 let a:=k' e.2 8
 let b:=k' a.2 8
 let c:=p1 b.2
 let d:=p1 c.2
 let n:=k' d.2 4
 ⟨e.1,a.1,b.1,c.1,d.1,n.1,n.2⟩
def tP(bs:List Int):Option Rec:=
 let h:=Hl ⟨bs.take (gX bs.length 40),0,0,0⟩
 if h.ok=au then af
 else if¬(h.r.bq=0/\h.r.dj=0)\/kc (R.wrap h.cnt)=0\/(bs.length:Int)<kc (R.wrap h.cnt)then af
 else(sX (bs.take (kc (R.wrap h.cnt)).toNat)).map (λall=>⟨h.seq,h.id,h.cur,h.off,all.drop 40⟩)
def wrap_i64 z:-9223372036854775808<=R.wrap z:=by grind[C3,C2]
def acr A c bs w(l:bs.length<=140737488355328)(hb:bT w A bs):
 aD ax 134 #[ad A bs.length c] w λe w'=>∃B a d,e=aA (ay (ab ⟨B,0,af⟩))/\b5 w w' (ep B a d ⟨bs,0,0,0⟩):=
 (aq0 A c bs w l hb).mono (λ_ _ ⟨B,a,d,k,lo,hr,j,m,g⟩=>⟨B,a,d,k,g,⟨hr,j.le (cQ _),λb h1 f=>m (by have i:b=B:=h1;exact i▸f)⟩,λb hb2=>hb2.elim (λh=>by have i:b=B:=h;rw[i];exact⟨lo,aX.lt hr⟩) (λ⟨off,n,e⟩=>by obtain⟨h1,cs,f⟩:=j.2.1 b off n e;exact⟨h1,aX.lt f⟩)⟩)
def adR n w(d:-9223372036854775808<=n):
 aD ax 199 #[J R n] w λe w'=>e=aA (J R (kc n))/\ao w w':=by
 by_cases h1:n<0
 .have a:kc n=0:=by grind[kc]
  rw[a];clear a;go_enter UX,Vq;have b:=bg w;go_step;refine aF ?_;refine cK ?_;refine cd (aj aB) ?_;refine ag ?_;iterate 2 refine ps ?_
  refine pk (aj aB) ?_;refine aF ?_;refine ag ?_;refine ak ?_;go_wp2_with fail;go_ret;exact⟨aa,b.only⟩
 by_cases c:n>1048576
 .have a:kc n=0:=by grind[kc]
  rw[a];clear a;go_enter UX,Vq;have b:=bg w;go_step;refine aF ?_;refine cK ?_;refine cd (aj au) ?_;iterate 2 refine ag ?_
  refine cd (aj aB) ?_;refine pk (aj aB) ?_;refine aF ?_;refine ag ?_;refine ak ?_;go_wp2_with fail;go_ret;exact⟨aa,b.only⟩
 .have a:kc n=40+n+4:=by grind[kc]
  rw[a];clear a;go_enter UX,Vq;have b:=bg w;go_step;refine aF ?_;refine cK ?_;refine cd (aj au) ?_;iterate 2 refine ag ?_
  refine cd (aj au) ?_;refine pk (aj au) ?_;refine b6 ?_;refine pad 40 n (40+n) ?_;refine pad _ 4 (40+n+4) ?_;refine bR ?_;go_wp2_with fail;go_ret;exact⟨aa,b.only⟩
def ary{bs d:List Int}{n}(h:sX (bs.take n)=ab d)(b:44<=n)(a:n<=bs.length):40<=d.length:=by grind[sX]
def e3.Fp{w A c i N bs}(h:e3 N w A c bs):e3 N w (fF A c i 1) (c -i) (bs.drop i):=
 ⟨h.1.Fp h.2.2,h.2.1.win,by have:=h.2.2;simp;omega⟩
def asQ A c bs w(hl:bs.length<=17592186044416)(hc:bs.length<=c)(hb:bT w A bs):
 aD ax 132 #[ad A bs.length c] w λe w'=>(∃r,tP bs=ab r/\∃y C,e=aA (bh #[av (recC r y C),J R 0])/\b5 w w' (cf y C r.data))\/(tP bs=af/\e=aA (bh #[av MJ,J R 19])/\ao w w'):=by
 obtain⟨u,d'⟩:=ex (gX bs.length 40);have gx:aE (gX (bs.length:Int) 40=(u:Int)):=hid ae;have aoy:u<=40/\u<=bs.length:=ae;have N:aE (tP bs=(let h:=Hl ⟨bs.take u,0,0,0⟩;if h.ok=au then af else if¬(h.r.bq=0/\h.r.dj=0)\/kc (R.wrap h.cnt)=0\/(bs.length:Int)<kc (R.wrap h.cnt)then af else(sX (bs.take (kc (R.wrap h.cnt)).toNat)).map (λall=>⟨h.seq,h.id,h.cur,h.off,all.drop 40⟩))):=hid (by rw[<-d'];rfl);clear d';obtain⟨s,Z⟩:∃s:Rd,(⟨bs.take u,0,0,0⟩:Rd)=s:=⟨_,aa⟩;have h0:qt s:=by rw[<-Z];exact⟨cQ _,aG⟩
 have hb0:s.bs=bs.take u:=aG;have ao1:=Z;rw[Z]at N;have T:=amR h0 sU 19;obtain⟨O,x,h1⟩:∃O x,rJ s sU 19=(O,x):=⟨_,_,aa⟩;rw[h1]at T;have U:=M4 T 8;have hg2:=IK x 8;obtain⟨v2,G,D⟩:∃v r,k' x 8=(v,r):=⟨_,_,aa⟩;rw[D]at U hg2;have V:=M4 U 8;have hg3:=IK G 8;obtain⟨v3,H,h3⟩:∃v r,k' G 8=(v,r):=⟨_,_,aa⟩;rw[h3]at V hg3;have X:=ab5 V;have hg4:=ab6 H;obtain⟨v4,I,h4⟩:∃v r,p1 H=(v,r):=⟨_,_,aa⟩;rw[h4]at X hg4;have Y:=ab5 X;have qF:=ab6 I;obtain⟨v5,K,h5⟩:∃v r,p1 I=(v,r):=⟨_,_,aa⟩;rw[h5]at Y qF;have aaR:=M4 Y 4;have wS:=IK K 4;obtain⟨v6,L,h6⟩:∃v r,k' K 4=(v,r):=⟨_,_,aa⟩;rw[h6]at aaR wS;have aak:Hl s=⟨O,v2,v3,v4,v5,v6,L⟩:=by grind[Hl]
 rw[aak]at N;have H1:aE (∀B A c W,Has W (ep B A c s)->∀M S,bT W M sU->4<=S->(∀b,dV M b->¬(ep B A c s).c5 b)->aD ax 210 #[ay (ab ⟨B,0,af⟩),ad M 4 S,J R 19] W λe w'=>e=aA (aj O)/\Turned W w' (ep B A c s) (ep B A c x)):=hid (λB A c W h M S ei fo ly=>by have q:=as9 B A c s M S sU 19 W h h0 ei fo ly bj;rw[h1]at q;exact q);have eM:aE (∀B A c W,Has W (ep B A c x)->aD ax 135 #[ay (ab ⟨B,0,af⟩),J R 8] W λe w'=>e=aA (J aH v2)/\Turned W w' (ep B A c x) (ep B A c G)):=hid (λB A c W h=>by have q:=Iy B A c x 8 W h T ae;rw[D]at q;exact q);have iA:aE (∀B A c W,Has W (ep B A c G)->aD ax 135 #[ay (ab ⟨B,0,af⟩),J R 8] W λe w'=>e=aA (J aH v3)/\Turned W w' (ep B A c G) (ep B A c H)):=hid (λB A c W h=>by have q:=Iy B A c G 8 W h U ae;rw[h3]at q;exact q);have hV:aE (∀B A c W,Has W (ep B A c H)->aD ax 211 #[ay (ab ⟨B,0,af⟩)] W λe w'=>e=aA (J R v4)/\Turned W w' (ep B A c H) (ep B A c I)):=hid (λB A c W h=>by have q:=adN B A c H W h V;rw[h4]at q;exact q);have hD:aE (∀B A c W,Has W (ep B A c I)->aD ax 211 #[ay (ab ⟨B,0,af⟩)] W λe w'=>e=aA (J R v5)/\Turned W w' (ep B A c I) (ep B A c K)):=hid (λB A c W h=>by have q:=adN B A c I W h X;rw[h5]at q;exact q);have qj:aE (∀B A c W,Has W (ep B A c K)->aD ax 135 #[ay (ab ⟨B,0,af⟩),J R 4] W λe w'=>e=aA (J aH v6)/\Turned W w' (ep B A c K) (ep B A c L)):=hid (λB A c W h=>by have q:=Iy B A c K 4 W h Y ae;rw[h6]at q;exact q);obtain⟨⟨bq,dj⟩,gK⟩:∃p:Int×Int,(L.bq,L.dj)=p:=⟨_,aa⟩;simp only[oc]at gK;obtain⟨dr,Ee⟩:=gK;have P:aE (∀B A c W,Has W (ep B A c L)->aD ax 212 #[ay (ab ⟨B,0,af⟩)] W λe w'=>e=aA (av #[J R bq,J R dj])/\ao W w'):=hid (λB A c W h=>by have q:=atc B A c L W h;rw[dr,Ee]at q;exact q);simp only[dr,Ee]at N;have aym:0<=v6/\v6<18446744073709551616:=wS;clear hb0;clear h0 h1 D h3 h4 h5 h6 T U V X Y aaR hg2 hg3 hg4 qF wS aak dr Ee Z
 have re:aE (∀W,ao w W->aD ax 134 #[ad A u c] W λe w'=>∃B y C,e=aA (ay (ab ⟨B,0,af⟩))/\b5 W w' (ep B y C s)):=hid (λW g=>by have q:=acr A c (bs.take u) W aG (bT.Fo (hb.aI g) aoy.2);grind)
 have dv:aE (∀W,ao w W->∀n:Nat,(n:Int)<=1048620->n<=bs.length->aD ax 213 #[ad A n c] W λe w'=>(∃d y C,sX (bs.take n)=ab d/\e=aA (bh #[ad y d.length C,aj aB])/\e3 W.heap.size w' y C d/\ao W w')\/(sX (bs.take n)=af/\e=aA (bh #[ad af 0 0,aj au])/\ao W w')):=hid (λW g n h1 D=>by have q:=arA A c (bs.take n) W aG aG (bT.Fo (hb.aI g) D);grind);clear hb ao1;go_enter func132,ntmps132;have a:=bg w;go_upto_region 0 with fail;refine ar ?_;refine bA a #[J aH 0,J aH 0,J R 0,J R 0,ad af 0 0] (λcz w1 a=>?_);refine dR ?_;iterate 3 refine ag ?_
 refine aJ (J R (u:Int)) (by(have h:=gx.out;go_simp;try rw[h])) ?_;refine aJ _ (qV 22 5 1 _ _ aa dJ aw A _ c u aa aa ae) ?_;refine a7 (re.out _ a.only) ?_;rintro e aS ⟨o,m,c1,rfl,hf⟩;replace a:=a.new _ hf;refine Fu ?_;cases O with
 |false=>
  refine b6 ?_;refine ga a #[J ea 71,J ea 74,J ea 82,J ea 49] 5 (λCQ bN a=>?_);refine Cp a 0 (EX sU aa aa (a.a1 0) aa dJ lj) (λcc a=>?_);refine a7 (H1.out o m c1 _ (a.has 1) _ 4 (a.at 0) (cp _) (λb hb=>a.ne (i:=0) (j:=1) aa aa bj b hb)) ?_;rintro e cG ⟨rfl,k⟩;replace a:=a.eG 1 k;refine bb ?_;refine pk (aj aB) ?_;refine b6 ?_;refine ba a 2 (av #[J aH 0,J aH 0,J R 0,J R 0,ad af 0 0]) (λc6 a=>?_);refine bR ?_;go_wp2_with fail;refine dp (v:=_) (mP aa aa aa (a.a1 2) aw aw) aa (b3 ⟨by rw[N.out];rfl,aa,a.only⟩)
 |true=>
  refine b6 ?_;refine ga a #[J ea 71,J ea 74,J ea 82,J ea 49] 5 (λCQ dX a=>?_);refine Cp a 0 (EX sU aa aa (a.a1 0) aa dJ lj) (λdH a=>?_);refine a7 (H1.out o m c1 _ (a.has 1) _ 4 (a.at 0) (cp _) (λb hb=>a.ne (i:=0) (j:=1) aa aa bj b hb)) ?_;rintro e e9 ⟨rfl,k⟩;replace a:=a.eG 1 k;refine bb ?_;refine pk (aj au) ?_;refine b6 ?_;refine a7 (eM.out o m c1 _ (a.has 1)) ?_;rintro e hT ⟨rfl,k⟩;replace a:=a.eG 1 k;refine bb ?_;refine ag ?_;refine a7 (iA.out o m c1 _ (a.has 1)) ?_;rintro e i' ⟨rfl,k⟩;replace a:=a.eG 1 k;refine bb ?_;refine ag ?_;refine a7 (hV.out o m c1 _ (a.has 1)) ?_;rintro e ks ⟨rfl,k⟩;replace a:=a.eG 1 k;refine bb ?_;refine ag ?_;refine a7 (hD.out o m c1 _ (a.has 1)) ?_;rintro e lf ⟨rfl,k⟩;replace a:=a.eG 1 k;refine bb ?_;refine ag ?_;refine bA a #[J aH 0,J aH 0,J R 0,J R 0,ad af 0 0] (λeL mm a=>?_);refine ba a 0 (av #[J aH v2,J aH v3,J R v4,J R v5,ad af 0 0]) (λnU a=>?_);refine ak ?_;obtain⟨l,LU⟩:=ex (R.wrap v6);have aps:-9223372036854775808<=l:=by rw[<-LU];exact wrap_i64 _
  have Q:aE (tP bs=if¬(bq=0/\dj=0)\/kc l=0\/(bs.length:Int)<kc l then af else(sX (bs.take (kc l).toNat)).map (λall=>⟨v2,v3,v4,v5,all.drop 40⟩)):=hid (by rw[<-LU];exact N.out);have ai2:=hid LU;clear LU;refine b6 ?_;refine a7 (qj.out o m c1 _ (a.has 2)) ?_;rintro e pa ⟨rfl,k⟩;replace a:=a.eG 2 k;refine bb ?_;refine aJ (J R l) (by(have h:=ai2.out;go_simp;try rw[h])) ?_;refine bC (adR l _ aps) a (λta a=>?_);refine bR ?_;have abx:=aua l;have qo:aE (kc l=kc l):=hid aa;by_cases hF:bq=0/\dj=0
  .obtain⟨rfl,rfl⟩:=hF;by_cases lR:kc l=0
   .have F:=hid lR;refine b6 ?_;refine bC (P.out o m c1 _ (a.has 2)) a (λtb a=>?_);refine ag ?_;refine aJ _ (by(go_simp;try rfl)) ?_;iterate 2 refine ag ?_
    refine dt F (aj aB) ?_;refine pk (aj aB) ?_;refine ag ?_;iterate 4 refine ps ?_
    refine cK ?_;refine ba a 3 (av #[J aH 0,J aH 0,J R 0,J R 0,ad af 0 0]) (λxo a=>?_);refine bR ?_;go_wp2_with fail;refine dp (v:=_) (mP aa aa aa (a.a1 3) aw aw) aa (b3 ⟨by rw[Q.out];rw[if_pos (b3 (.inl F.out))],aa,a.only⟩)
   .by_cases yk:(bs.length:Int)<kc l
    .have F:=hid lR;refine b6 ?_;refine bC (P.out o m c1 _ (a.has 2)) a (λAB a=>?_);refine ag ?_;refine aJ _ (by(go_simp;try rfl)) ?_;iterate 2 refine ag ?_
     refine aJ (aj au) (by(have h:=F.out;go_simp;first|done|(simp[h];done)|omega)) ?_;refine pk (aj au) ?_;iterate 4 refine ag ?_
     refine cd (aj aB) ?_;refine pk (aj aB) ?_;refine b6 ?_;refine ba a 3 (av #[J aH 0,J aH 0,J R 0,J R 0,ad af 0 0]) (λCI a=>?_);refine bR ?_;go_wp2_with fail;refine dp (v:=_) (mP aa aa aa (a.a1 3) aw aw) aa (b3 ⟨by rw[Q.out];rw[if_pos (b3 (b3 yk))],aa,a.only⟩)
    .have F:=hid lR;obtain⟨n,hn⟩:∃n:Nat,kc l=n:=⟨(kc l).toNat,ae⟩;have dq:=hid hn;have R6:n<=bs.length:=ae;have aoP:44<=n:=ae;have ng:(n:Int)<=1048620:=ae;refine b6 ?_;refine bC (P.out o m c1 _ (a.has 2)) a (λCJ a=>?_);refine ag ?_;refine aJ _ (by(go_simp;try rfl)) ?_;iterate 2 refine ag ?_
     refine aJ (aj au) (by(have h:=F.out;go_simp;first|done|omega|omega)) ?_;refine pk (aj au) ?_;iterate 4 refine ag ?_
     refine cd (aj au) ?_;refine pk (aj au) ?_;refine ak ?_;have ayn:=dv.out;clear hn;have fN:aE (tP bs=(sX (bs.take n)).map (λall=>⟨v2,v3,v4,v5,all.drop 40⟩)):=hid (by rw[Q.out,if_neg ae,dq.out];rfl);rcases hop:sX (bs.take n)with _|d
     .have E:=hid hop;clear hop;refine b6 ?_;refine aJ (J R (n:Int)) (by(have h:=dq.out;go_simp;try rw[h])) ?_;refine aJ _ (qV 22 5 1 _ _ aa dJ aw A _ c n aa aa ae) ?_;refine a7 (dv.out _ a.only n ng R6) ?_;rintro e Fm (⟨d,_,_,t,_⟩|⟨_,rfl,g⟩);·rw[E.out]at t;cases t
      replace a:=a.aI g;refine bb ?_;iterate 5 refine ag ?_
      refine b6 ?_;refine pk (aj aB) ?_;refine b6 ?_;refine ba a 3 (av #[J aH 0,J aH 0,J R 0,J R 0,ad af 0 0]) (λIP a=>?_);refine bR ?_;go_wp2_with fail;refine dp (v:=_) (mP aa aa aa (a.a1 3) aw aw) aa (b3 ⟨by rw[fN.out,E.out];rfl,aa,a.only⟩)
     .have E:=hid hop;have iH:40<=d.length:=ary hop aoP R6;clear hop;refine b6 ?_;refine aJ (J R (n:Int)) (by(have h:=dq.out;go_simp;try rw[h])) ?_;refine aJ _ (qV 22 5 1 _ _ aa dJ aw A _ c n aa aa ae) ?_;refine a7 (dv.out _ a.only n ng R6) ?_;rintro e TZ (⟨d2,z,f,t,rfl,oC,g⟩|⟨t,_⟩);rotate_left;·rw[E.out]at t;cases t
      rw[E.out]at t;injection t with t;subst t;replace a:=a.js g oC;refine bb ?_;iterate 5 refine ag ?_
      refine b6 ?_;refine pk (aj au) ?_;refine b6 ?_;refine aJ (ad (fF z f 40 1) (d.length -40) (f -40)) (Au 22 5 1 (.tmp 59) (.const (J R 40)) aa dJ aw z d.length f 40 (d.length -40) aa aa ae (a.lr 0).2.2) ?_;refine ag ?_;refine ba a 1 (ad (fF z f 40 1) (d.length -40) (f -40)) (λT0 a=>?_);refine aF ?_;refine bt a 1 #[J aH v2,J aH v3,J R v4,J R v5,ad (fF z f 40 1) (d.length -40) (f -40)] ?_;refine ba a 4 (av #[J aH v2,J aH v3,J R v4,J R v5,ad (fF z f 40 1) (d.length -40) (f -40)]) (λT1 a=>?_);refine bR ?_;go_wp2_with fail;refine dp (v:=bh #[av #[J aH v2,J aH v3,J R v4,J R v5,ad (fF z f 40 1) (d.length -40) (f -40)],J R 0]) (mP aa aa aa (a.a1 4) aw aw) aa (.inl ⟨⟨v2,v3,v4,v5,d.drop 40⟩,by rw[fN.out,E.out];rfl,fF z f 40 1,f -40,aU,(a.as 0 aa _ (λh=>e3.Fp h) (λb hb=>SB hb)).fresh 0⟩)
  .have anL:=hid hF;refine b6 ?_;refine bC (P.out o m c1 _ (a.has 2)) a (λT2 a=>?_);refine ag ?_;refine aJ (aj aB) (by(go_simp;exact λh1 D=>hF ⟨h1,D⟩)) ?_;refine ag ?_;iterate 2 refine ps ?_
   refine pk (aj aB) ?_;refine ag ?_;iterate 4 refine ps ?_
   refine cK ?_;refine ba a 3 (av #[J aH 0,J aH 0,J R 0,J R 0,ad af 0 0]) (λae7 a=>?_);refine bR ?_;go_wp2_with fail;refine dp (v:=_) (mP aa aa aa (a.a1 3) aw aw) aa (b3 ⟨by rw[Q.out];rw[if_pos (.inl anL.out)],aa,a.only⟩)
def E6(a i cu of n:Nat):List Int:=sU++iT [(a,8),(i,8),(cu,8),(of,8),(n,4)]
def vj(a i cu of:Nat)(ds:List Int):List Int:=Ar (E6 a i cu of ds.length++ds)
def T8{z}(h:0<=z/\z<18446744073709551616):aH.wrap z=z:=by grind[C3,C2,IntKind.signed]
def asW(a i cu of n):(E6 a i cu of n).length=40:=aT
def Row.Ff{w N n c A bs}(h:Row N w A n c 5 1 (bs.map a')):bT w A bs:=by grind[bT.lW]
def Row.aub{w N n c A}{bs:List Int}(h:Row N w A n c 5 1 (bs.map a')):bs.length=n:=by have a:=Row.len h;simpa using a
def as4(d i cu of:Nat)A c ds w(O:d<18446744073709551616/\i<18446744073709551616/\cu<=4611686018427387903/\of<=4611686018427387903/\ds.length<=1048576)(hb:bT w A ds):
 aD ax 290 #[av #[J aH (d:Int),J aH (i:Int),J R (cu:Int),J R (of:Int),ad A ds.length c]] w λe w'=>∃l n,e=aA (bh #[ad l (vj d i cu of ds).length n,J R 0])/\b5 w w' (cf l n (vj d i cu of ds)):=by
 have r:aE (∀a:Nat,(a:Int)<=4611686018427387903->∀W,aD ax 115 #[av #[J R (a:Int),J R 0]] W λe w'=>e=aA (aj aB)/\ao W w'):=hid (λa P W=>xm (a:Int) 0 W ⟨ae,ae,ae⟩);have t:aE (∀W,ao w W->bT W A ds):=hid (λW g=>hb.aI g)
 have u:aE (∀W,(∀B F,aX W F #[J aH (d:Int),J R 8,J aH (i:Int),J R 8,J aH (cu:Int),J R 8,J aH (of:Int),J R 8,J aH (ds.length:Int),J R 4] 227->bT W (ab ⟨B,0,af⟩) sU->aD ax 126 #[ad (ab ⟨B,0,af⟩) 4 4,ad (ab ⟨F,0,af⟩) 5 5] W λe w'=>∃l n,e=aA (bh #[ad l 40 n,aj aB])/\Row W.heap.size w' l 40 n 5 1 ((E6 d i cu of ds.length).map a')/\ao W w')):=hid (λW B F j x=>by
  have q:=ae9 (ab ⟨B,0,af⟩) 4 sU F 0 5 [(d,8),(i,8),(cu,8),(of,8),(ds.length,4)] W ⟨bj,aU⟩ x (λf Q=>by grind[ye]) (λk f hk=>by
   obtain rfl|rfl|rfl|rfl|rfl|N:k=0\/k=1\/k=2\/k=3\/k=4\/5<=k:=ae;·cases hk;exact⟨j.cell _ aa,j.cell _ aa⟩
   .cases hk;exact⟨j.cell _ aa,j.cell _ aa⟩
   .cases hk;exact⟨j.cell _ aa,j.cell _ aa⟩
   .cases hk;exact⟨j.cell _ aa,j.cell _ aa⟩
   .cases hk;exact⟨j.cell _ aa,j.cell _ aa⟩
   grind);have v:(sU++iT [(d,8),(i,8),(cu,8),(of,8),(ds.length,4)]).length=40:=asW d i cu of ds.length;rw[v]at q;exact q);clear hb;go_enter func290,ntmps290;have b:=bg w;go_upto_region 0 with fail;refine ar ?_;refine bO b (av #[J aH (d:Int),J aH (i:Int),J R (cu:Int),J R (of:Int),ad A ds.length c]) (λG w1 b=>?_);refine CN ?_;refine pl b 0 2 ?_;refine ag ?_;refine bC (r.out cu ae _) b (λS b=>?_);refine pk (aj au) ?_;refine v2 ?_;refine pl b 0 3 ?_;refine ag ?_;refine bC (r.out of ae _) b (λT b=>?_);refine pk (aj au) ?_;refine pk (aj au) ?_;refine v2 ?_;refine pl b 0 4 ?_;refine ag ?_;refine cd (aj au) ?_;refine pk (aj au) ?_;refine aF ?_;refine ga b #[J ea 71,J ea 74,J ea 82,J ea 49] 5 (λH U b=>?_);refine Cp b 0 (EX sU aa aa (b.a1 0) aa dJ lj) (λV b=>?_);refine ag ?_;refine pl b 1 0 ?_;refine v2 ?_;refine pl b 1 1 ?_;refine v2 ?_;refine pl b 1 2 ?_;refine aJ (J aH (cu:Int)) (by(have h:=T8 (z:=(cu:Int)) ae;go_simp;try rw[h])) ?_;refine v2 ?_;refine pl b 1 3 ?_;refine aJ (J aH (of:Int)) (by(have h:=T8 (z:=(of:Int)) ae;go_simp;try rw[h])) ?_;refine v2 ?_;refine pl b 1 4 ?_;refine ag ?_;refine aJ (J aH (ds.length:Int)) (by(have h:=T8 (z:=(ds.length:Int)) ae;go_simp;try rw[h])) ?_;refine ag ?_;refine ga b #[J aH (d:Int),J R 8,J aH (i:Int),J R 8,J aH (cu:Int),J R 8,J aH (of:Int),J R 8,J aH (ds.length:Int),J R 4] 227 (λI X b=>?_);refine a7 (u.out _ _ _ (b.a1 0) (b.at 1)) ?_;rintro e Y ⟨C,K,rfl,hrow,g⟩;replace b:=b.k8 g hrow;refine bb ?_;refine v5 ?_;refine jb ?_;refine pl b 3 4 ?_;refine np (m:=ds.length) b 0 1 ((t.out _ b.only).cells) (vG ds) (λD L Z b=>?_)
 have s:aE (∀W o p,Row 0 W o (40+ds.length) p 5 1 ((E6 d i cu of ds.length).map a'++ds.map a')->aD ax 325 #[ad o (40+ds.length) p] W λe w'=>∃l n,e=aA (ad l (vj d i cu of ds).length n)/\e3 W.heap.size w' l n (vj d i cu of ds)/\ao W w'):=hid (λW o p hr=>by rw[<-List.map_append]at hr;have e:=hr.aub;have q:=at0 o p (E6 d i cu of ds.length++ds) W ae (by rw[e];exact hr.cap) hr.Ff;rw[e]at q;exact q);refine a7 (s.out _ _ _ (b.at 0)) ?_;rintro e e9 ⟨E,M,rfl,y,g⟩;replace b:=b.js g y;refine bb ?_;refine dQ ?_;go_wp2_with fail;go_ret2;exact⟨_,_,aa,b.fresh 0⟩
end Go.Proofs.YtcmhplknoglbkaaGreat
