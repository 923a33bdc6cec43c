/- Part 11 of the proof of TopConvertsSaid. -/
import Derived.Test.YtcmhplknoglbkaaGreat0
import Derived.Test.YtcmhplknoglbkaaGreat6
import Derived.Test.YtcmhplknoglbkaaGreat7
set_option linter.all false
set_option maxRecDepth 100000
set_option maxHeartbeats 4000000
open Go.Proofs.Tryz
open Go.Ending renaming returned->aA
open Go.IntKind renaming i64->R
open Go.Operand renaming const->qh,tmp->bc
open Go.Proofs.Tryz renaming prog->ax,underlying22->dJ,underlying435->VQ
open Go.RowKit renaming intOf->cx
open Go renaming Value->aP,undef->aZ,wpList_nil->ak,wp_region_lit->ar
open Go.Value renaming int->J,pointer->ay,slice->ad
open List renaming getElem?_map->kB,length_replicate->ry,length_set->wz,mem_map->gN,replicate->fu
open Nat renaming zero_le->cQ
open Option renaming none->af,some->ab
namespace Go.Proofs.YtcmhplknoglbkaaGreat
open Go.RowKit Go.MapKept
def p5(x a)s w(h:(a,s)∈[(-7,25),(-18,14),(-17,15),(-19,13),(-6,26),(-11,21),(-25,7),(-2,30),(-13,19),(-22,10)]):
 Calls ax 332 #[cb x,J R a] w λe w'=>e=aA (cb (kO x s))/\ao w w':=by
 have hk:=by simpa using h
 go_enter func332,ntmps332;have b:=bg w;go_upto_region 0 with fail;refine ar ?_;refine ku ?_;refine aJ (J .u64 (s:Int)) (by(rcases hk with⟨rfl,rfl⟩|⟨rfl,rfl⟩|⟨rfl,rfl⟩|⟨rfl,rfl⟩|⟨rfl,rfl⟩|⟨rfl,rfl⟩|⟨rfl,rfl⟩|⟨rfl,rfl⟩|⟨rfl,rfl⟩|⟨rfl,rfl⟩<;>(show _=_;kernel_rfl))) ?_;refine ku ?_;refine aJ (cb (vC x s)) (by(rcases hk with⟨rfl,rfl⟩|⟨rfl,rfl⟩|⟨rfl,rfl⟩|⟨rfl,rfl⟩|⟨rfl,rfl⟩|⟨rfl,rfl⟩|⟨rfl,rfl⟩|⟨rfl,rfl⟩|⟨rfl,rfl⟩|⟨rfl,rfl⟩<;>(show _=_;kernel_rfl))) ?_;refine v2 ?_;refine aJ (J .u64 ((32 -s:Nat):Int)) (by(rcases hk with⟨rfl,rfl⟩|⟨rfl,rfl⟩|⟨rfl,rfl⟩|⟨rfl,rfl⟩|⟨rfl,rfl⟩|⟨rfl,rfl⟩|⟨rfl,rfl⟩|⟨rfl,rfl⟩|⟨rfl,rfl⟩|⟨rfl,rfl⟩<;>(show _=_;kernel_rfl))) ?_;refine aJ (cb (kb x (32 -s))) (by(rcases hk with⟨rfl,rfl⟩|⟨rfl,rfl⟩|⟨rfl,rfl⟩|⟨rfl,rfl⟩|⟨rfl,rfl⟩|⟨rfl,rfl⟩|⟨rfl,rfl⟩|⟨rfl,rfl⟩|⟨rfl,rfl⟩|⟨rfl,rfl⟩<;>(show _=_;kernel_rfl))) ?_;refine pk (cb (kO x s)) ?_;refine IZ ?_;exact⟨aa,b.only⟩
def yE:List Int:=[1116352408,1899447441,3049323471,3921009573,961987163,1508970993,2453635748,2870763221,3624381080,310598401,607225278,1426881987,1925078388,2162078206,2614888103,3248222580,3835390401,4022224774,264347078,604807628,770255983,1249150122,1555081692,1996064986,2554220882,2821834349,2952996808,3210313671,3336571891,3584528711,113926993,338241895,666307205,773529912,1294757372,1396182291,1695183700,1986661051,2177026350,2456956037,2730485921,2820302411,3259730800,3345764771,3516065817,3600352804,4094571909,275423344,430227734,506948616,659060556,883997877,958139571,1322822218,1537002063,1747873779,1955562222,2024104815,2227730452,2361852424,2428436474,2756734187,3204031479,3329325298]
def SI:yE.length=64:=rfl
def SJ w:
 Calls ax 331 #[] w λe w'=>e=aA (.agg (aY cb yE []))/\ao w w':=by
 go_enter func331,ntmps331;have a:=bg w;go_upto_region 0 with fail;refine ar ?_;refine bA a (aY cb (fu 64 0) []) (λb w1 a=>?_);refine aF ?_;refine pk (.agg (aY cb yE [])) ?_;refine Cq a 0 (ry ..) SI (λc a=>?_);refine ak ?_;go_wp2_with fail;refine bodyPost_ret (v:=.agg (aY cb yE [])) (results_cell_row aa _ _ _ _ _ _ _ aa (a.a1 0) VQ aa aT) aa (⟨aa,a.only⟩)
section
def ae8(bs:List Int)(i:Nat):Int:=xd (xd (xd (vC (j8 (bs[4*i]?.getD 0)) 24) (vC (j8 (bs[4*i+1]?.getD 0)) 16)) (vC (j8 (bs[4*i+2]?.getD 0)) 8)) (j8 (bs[4*i+3]?.getD 0))
def ui(bs:List Int):Nat->List Int
 |0=>fu 16 0
 |i+1=>(ui bs i).set i (ae8 bs i)
def LX(bs:List Int):∀q,(ui bs q).length=16
 |0=>aa
 |q+1=>by rw[ui,wz];exact LX bs q
def Aq(t:Nat)(w:List Int):List Int:=if 16<=t then w.set (t%16) (a32 (w[t%16]?.getD 0) (a32 (a32 (kt (kt (kO (w[(t+1)%16]?.getD 0) 25) (kO (w[(t+1)%16]?.getD 0) 14)) (kb (w[(t+1)%16]?.getD 0) 3)) (w[(t+9)%16]?.getD 0)) (kt (kt (kO (w[(t+14)%16]?.getD 0) 15) (kO (w[(t+14)%16]?.getD 0) 13)) (kb (w[(t+14)%16]?.getD 0) 10))))else w
def atZ{t:Nat}{w:List Int}{n:Nat}(h:w.length=n):(Aq t w).length=n:=by
 unfold Aq;split;·rw[wz];exact h
 .exact h
def As(v:List Int):List Int:=v.take 1++v.take 7
def Cw{v:List Int}(h:v.length=8):(As v).length=8:=by simp[As,h]
def aeJ(k a:Int)(v:List Int):Int:=a32 (a32 (a32 (a32 (v[7]?.getD 0) (kt (kt (kO (v[4]?.getD 0) 26) (kO (v[4]?.getD 0) 21)) (kO (v[4]?.getD 0) 7))) (kt (v[6]?.getD 0) (n32 (v[4]?.getD 0) (kt (v[5]?.getD 0) (v[6]?.getD 0))))) k) a
def auI(v:List Int):Int:=a32 (kt (kt (kO (v[0]?.getD 0) 30) (kO (v[0]?.getD 0) 19)) (kO (v[0]?.getD 0) 10)) (xd (n32 (v[0]?.getD 0) (v[1]?.getD 0)) (n32 (v[2]?.getD 0) (xd (v[0]?.getD 0) (v[1]?.getD 0))))
def TE(k a:Int)(v:List Int):List Int:=((As v).set 4 (a32 ((As v)[4]?.getD 0) (aeJ k a v))).set 0 (a32 (aeJ k a v) (auI v))
def atl{k a:Int}{v:List Int}(h:v.length=8):(TE k a v).length=8:=by simp only[TE,wz];exact Cw h
def Ix(t:Nat)(p:List Int×List Int):List Int×List Int:=(Aq t p.1,TE (yE[t]?.getD 0) ((Aq t p.1)[t%16]?.getD 0) p.2)
def atw{t:Nat}{p:List Int×List Int}(h:p.1.length=16/\p.2.length=8):(Ix t p).1.length=16/\(Ix t p).2.length=8:=⟨atZ h.1,atl h.2⟩
def vK(bs ws:List Int):Nat->List Int×List Int
 |0=>(bs,ws)
 |t+1=>Ix t (vK bs ws t)
def Ty{bs ws:List Int}(hb:bs.length=16)(h:ws.length=8):∀t,(vK bs ws t).1.length=16/\(vK bs ws t).2.length=8
 |0=>⟨hb,h⟩
 |t+1=>by rw[vK];exact atw (Ty hb h t)
def Ax(v:List Int)(ws:List Int):Nat->List Int
 |0=>ws
 |i+1=>(Ax v ws i).set i (a32 ((Ax v ws i)[i]?.getD 0) (v[i]?.getD 0))
def MW{v ws:List Int}(h:ws.length=8):∀i,(Ax v ws i).length=8
 |0=>h
 |i+1=>by rw[Ax,wz];exact MW h i
def DG(ws bs:List Int):List Int:=Ax (vK (ui bs 16) ws 64).2 ws 8
theorem DH{ws bs:List Int}(h:ws.length=8):(DG ws bs).length=8:=MW h 8
def aeg{v:List Int}(h:v.length=8):((aY cb v []).toList.take 1++(v.take 7).map cb++(aY cb v []).toList.drop (1+7)).toArray=aY cb (As v) []:=by
 have h1:(aY cb v []).toList=v.map cb:=by simp[aY]
 rw[h1];have a:(v.map cb).drop (1+7)=[]:=List.drop_eq_nil_of_le (by simp[h]);rw[a];simp[aY,As,List.map_take]
def Yg{w:World}{B t j:Nat}{v:aP}{b:List Int}(hb:aX w B (aY cb b []) t)(c:b.length=8)(a:((b.take 7).map cb)[j]?=ab v):w.cell? ((⟨B,0,af⟩:Addr).add j)=ab v:=by
 rw[nD,Nat.zero_add];refine aX.cell hb j ?_;rw[kB,List.getElem?_take]at a;simp only[aY,List.append_nil,List.getElem?_toArray,kB];split at a;·exact a
 .cases a
section
variable {P:Program} {o:Oper} {a:Act} {w:World}
def Yf{d m:Operand}{e l f B off c h g k t n:Nat}{b:Addr}{old new:Array aP}(cs:List aP)(u:o.op=.call {callee:=.builtin .copy,args:=#[d,m],argTypes:=#[e,l]})(q:a.eval d=ad (ab ⟨B,off,af⟩) c h)(z:a.eval m=ad (ab b) g k)(i:aX w B old t)(y:∀j v,cs[j]?=ab v->w.cell? (b.add j)=ab v)(p:cs.length=n)(s:(old.toList.take off++cs++old.toList.drop (off+n)).toArray=new)(hcs:n=Nat.min g c)(r:off+n<=old.size)(h1:∀v∈cs,v.oneCell'=true)(A:P.underlying e=ab (.slice f))(x:(P.info? f).map (·.size)=ab 1):
 ∃w',(execOp a.eval o).run P w=.ok (.value (J R (n:Int))) w'/\Turned w w' (ah B old t) (ah B new t):=by
 subst p;have hr:=run_copy_row (P:=P) w e l o.type f B off c h b g k old t cs A x i hcs y r h1;refine⟨w.setRow B (old.toList.take off++cs++old.toList.drop (off+cs.length)).toArray,?_,vd (aq.setRow w B _) (s▸i.setRow _)⟩;unfold execOp;simp only[u,resolve,invoke,builtin,Sem.run_bind,Sem.run_pure,Result.andThen_ok,List.map_toArray,List.map_cons,List.map_nil,q,z,hr];rfl
end
set_option maxHeartbeats 8000000 in
def akn(B t:Nat)(ws:List Int)(s:aP)(n:Int)(A:Option Addr)(dC:Nat)(bs:List Int)(w:World)(ht:t≠5)(qJ:ws.length=8)(hl:bs.length=64)(hb:bT w A bs)(hne:∀off sp,A≠ab ⟨B,off,sp⟩)(V:aX w B (aY cb ws [s,J R n]) t):
 Calls ax 299 #[ay (ab ⟨B,0,af⟩),ad A 64 dC] w λe w'=>e=aA (.tuple #[])/\aq (λb=>b=B) w w'/\aX w' B (aY cb (DG ws bs) [s,J R n]) t:=by
 obtain⟨l,g,rfl,Q⟩:=hb ae;have E:=hid Q;have u:=hid qJ;have ayR:l≠B:=λe=>hne g af (by rw[e]);clear hb Q hne;go_enter func299,ntmps299;have a:=ai.start (t:=ah B (aY cb ws [s,J R n]) t) ⟨V,λb e=>(show b=B from e)▸aX.lt V⟩;go_upto_region 0 with fail;refine ar ?_;refine bA a (aY cb (ui bs 0) []) (λD w1 a=>?_);refine ak ?_;go_upto_region 1 with fail;refine ar ?_;refine ag ?_;refine KU ?_;go_loopw [21] (λh wr=>∃q:Nat,q<=16/\h=J R q/\ai w (λb=>b=B) wr [ah D (aY cb (ui bs q) []) 434,ah B (aY cb (ws) [s,J R n]) t]) (λh wr=>16 -(cx h).toNat);case atStart=>exact⟨0,cQ _,aa,a⟩
 case round=>
  clear a;obtain⟨q,U,rfl,a⟩:=hrel;by_cases hlt:q<16
  .have T:(q:Int)<16:=ae;obtain⟨O,hb0⟩:=ex (bs[4*q]?.getD 0);have Y:=E.out (4*q) ae;rw[hb0]at Y;obtain⟨eS,hb1⟩:=ex (bs[4*q+1]?.getD 0);have Z:=E.out (4*q+1) ae;rw[hb1]at Z;obtain⟨eZ,hb2⟩:=ex (bs[4*q+2]?.getD 0);have z2:=E.out (4*q+2) ae;rw[hb2]at z2;obtain⟨sA,hb3⟩:=ex (bs[4*q+3]?.getD 0);have z3:=E.out (4*q+3) ae;rw[hb3]at z3;have F:=hid (And.intro hb0 (And.intro hb1 (And.intro hb2 hb3)));clear hb0 hb1 hb2 hb3;go_upto_region 3 with fail;refine ar ?_;refine v2 ?_;refine ak ?_;go_upto_region 4 with fail;refine bP a [35] (λ_ _=>aZ) (λ_=>λ|35=>ah D (aY cb ((ui bs q).set q (xd (xd (xd (vC (j8 O) 24) (vC (j8 eS) 16)) (vC (j8 eZ) 8)) (j8 sA))) []) 434|_=>emp) (λ|35=>[0]|_=>[]) (λ_=>[]) (λ_=>[]) [1,37] (λo=>?_);refine c7 ?_;refine KO 4 (q:Int) ((4*q:Nat):Int) ?_;refine aM (ay (ab ⟨l,(g+(4*q)),af⟩)) (λ_ _ _=>cI 22 5 1 (bc 25) (bc 27) aa dJ aw l g 64 dC ((4*q)) ((g+(4*q))) aa aa ae ae) ?_;refine l8 Y ?_;refine gC (cb (j8 O)) ?_;refine gC (cb (vC (j8 O) 24)) ?_;refine br ?_;refine KO 4 (q:Int) ((4*q:Nat):Int) ?_;refine tO ((4*q:Nat):Int) 1 ((4*q+1:Nat):Int) ?_;refine aM (ay (ab ⟨l,(g+(4*q+1)),af⟩)) (λ_ _ _=>cI 22 5 1 (bc 32) (bc 35) aa dJ aw l g 64 dC ((4*q+1)) ((g+(4*q+1))) aa aa ae ae) ?_;refine l8 Z ?_;refine gC (cb (j8 eS)) ?_;refine gC (cb (vC (j8 eS) 16)) ?_;refine pM ?_;refine br ?_;refine KO 4 (q:Int) ((4*q:Nat):Int) ?_;refine tO ((4*q:Nat):Int) 2 ((4*q+2:Nat):Int) ?_;refine aM (ay (ab ⟨l,(g+(4*q+2)),af⟩)) (λ_ _ _=>cI 22 5 1 (bc 41) (bc 44) aa dJ aw l g 64 dC ((4*q+2)) ((g+(4*q+2))) aa aa ae ae) ?_;refine l8 z2 ?_;refine gC (cb (j8 eZ)) ?_;refine gC (cb (vC (j8 eZ) 8)) ?_;refine pM ?_;refine br ?_;refine KO 4 (q:Int) ((4*q:Nat):Int) ?_;refine tO ((4*q:Nat):Int) 3 ((4*q+3:Nat):Int) ?_;refine aM (ay (ab ⟨l,(g+(4*q+3)),af⟩)) (λ_ _ _=>cI 22 5 1 (bc 50) (bc 53) aa dJ aw l g 64 dC ((4*q+3)) ((g+(4*q+3))) aa aa ae ae) ?_;refine l8 z3 ?_;refine gC (cb (j8 sA)) ?_;refine pM ?_;refine pK ?_;refine QU (LX ..) ?_;refine bS λaS a=>?_;go_wp2_with fail;go_roundw;case rel=>exact⟨q+1,ae,by go_num,by rw[ui,ae8,F.out.1,F.out.2.1,F.out.2.2.1,F.out.2.2.2];exact a.pick [1,0]⟩
   case measure=>simp[cx];omega
  .obtain rfl:q=16:=ae;go_upto_region 6 with fail;refine ar ?_;refine v3 ?_;refine MC a 1 u.out ?_;refine bA a (aY cb (fu 8 0) []) (λL bN a=>?_);refine Cq a 0 (ry ..) u.out (λcc a=>?_);refine ak ?_;go_upto_region 7 with fail;refine ar ?_;refine bC (SJ _) a (λcG a=>?_);refine ag ?_;refine KU ?_;go_loopw [65] (λh wr=>∃q:Nat,q<=64/\h=J R q/\ai w (λb=>b=B) wr [ah L (aY cb ((vK (ui bs 16) ws q).2) []) 352,ah D (aY cb ((vK (ui bs 16) ws q).1) []) 434,ah B (aY cb (ws) [s,J R n]) t]) (λh wr=>64 -(cx h).toNat);case atStart=>exact⟨0,cQ _,aa,a⟩
   case round=>
    clear a;obtain⟨q,U,rfl,a⟩:=hrel;obtain⟨d,I⟩:=ex (vK (ui bs 16) ws q).1;obtain⟨f,H⟩:=ex (vK (ui bs 16) ws q).2;have hl4:d.length=16:=by rw[<-I];exact(Ty (LX bs 16) u.out q).1
    have S:f.length=8:=by rw[<-H];exact(Ty (LX bs 16) u.out q).2
    rw[I,H]at a;have y:=hid (And.intro I H);have r:=hid hl4;have c:=hid S;clear I H hl4 S;by_cases hlt:q<64
    .have T:(q:Int)<64:=ae;obtain⟨k,hx0⟩:=ex (q%16);obtain⟨dc,hx1⟩:=ex ((q+1)%16);obtain⟨K,X⟩:=ex ((q+9)%16);obtain⟨p,W⟩:=ex ((q+14)%16);by_cases G:16<=q
     .have anD:(16:Int)<=(q:Int):=ae;go_upto_region 9 with fail;refine ar ?_;refine ag ?_;refine aJ (cb (yE[q]?.getD 0)) (SG 435 315 64 (bc 64) (bc 65) aa VQ aw aw cb yE q aa aa hlt SI) ?_;refine v2 ?_;refine ak ?_;go_upto_region 10 with fail;refine ar ?_;refine v2 ?_;refine ak ?_;go_upto_region 11 with fail;refine bP a [] (λ_ _=>aZ) (λ_ _=>emp) (λ_=>[]) (λ|4=>[1]|9=>[1]|_=>[]) (λ_=>[]) [0,1,2] (λo=>?_);refine aL ?_;refine tO (q:Int) 1 ((q+1:Nat):Int) ?_;refine aM (J R (dc:Int)) (λ_ _ _=>DF 3 (bc 72) (qh (J R 15)) 3 aa ((q+1)) aa aa ae dc ae) ?_;refine pK ?_;refine sH 0 r.out ?_;refine aL ?_;refine tO (q:Int) 14 ((q+14:Nat):Int) ?_;refine aM (J R (p:Int)) (λ_ _ _=>DF 3 (bc 77) (qh (J R 15)) 3 aa ((q+14)) aa aa ae p ae) ?_;refine pK ?_;refine sH 0 r.out ?_;refine br ?_;refine bS λc6 a=>?_;go_upto_region 12 with fail;refine ar ?_;refine ag ?_;refine bC (p5 _ (-7) 25 _ bj) a (λdX a=>?_);refine ag ?_;refine bC (p5 _ (-18) 14 _ bj) a (λdH a=>?_);refine pu ?_;refine ag ?_;refine pk (cb (kb (d[dc]?.getD 0) 3)) ?_;refine pu ?_;refine ag ?_;refine ak ?_;go_upto_region 13 with fail;refine ar ?_;refine ag ?_;refine bC (p5 _ (-17) 15 _ bj) a (λe9 a=>?_);refine ag ?_;refine bC (p5 _ (-19) 13 _ bj) a (λhT a=>?_);refine pu ?_;refine ag ?_;refine pk (cb (kb (d[p]?.getD 0) 10)) ?_;refine pu ?_;refine ag ?_;refine ak ?_;go_upto_region 14 with fail;refine bP a [15] (λ_ _=>aZ) (λ_=>λ|15=>ah D (aY cb (d.set k (a32 (d[k]?.getD 0) (a32 (a32 (kt (kt (kO (d[dc]?.getD 0) 25) (kO (d[dc]?.getD 0) 14)) (kb (d[dc]?.getD 0) 3)) (d[K]?.getD 0)) (kt (kt (kO (d[p]?.getD 0) 15) (kO (d[p]?.getD 0) 13)) (kb (d[p]?.getD 0) 10))))) []) 434|_=>emp) (λ|15=>[1]|_=>[]) (λ|3=>[1]|9=>[1]|_=>[]) (λ_=>[]) [0,2,18] (λo=>?_);refine aL ?_;refine aM (J R (k:Int)) (λ_ _ _=>DF 3 (bc 97) (qh (J R 15)) 3 aa q aa aa ae k ae) ?_;refine pK ?_;refine sH 0 r.out ?_;refine br ?_;refine tO (q:Int) 9 ((q+9:Nat):Int) ?_;refine aM (J R (K:Int)) (λ_ _ _=>DF 3 (bc 103) (qh (J R 15)) 3 aa ((q+9)) aa aa ae K ae) ?_;refine pK ?_;refine sH 0 r.out ?_;refine pM ?_;refine aL ?_;iterate 2 refine pM ?_
      refine pK ?_;refine QU r.out ?_;refine bS λi' a=>?_;obtain⟨z,m⟩:=ex (d.set k (a32 (d[k]?.getD 0) (a32 (a32 (kt (kt (kO (d[dc]?.getD 0) 25) (kO (d[dc]?.getD 0) 14)) (kb (d[dc]?.getD 0) 3)) (d[K]?.getD 0)) (kt (kt (kO (d[p]?.getD 0) 15) (kO (d[p]?.getD 0) 13)) (kb (d[p]?.getD 0) 10)))));rw[m]at a;have C:z.length=16:=by rw[<-m];exact(wz.trans r.out)
      have N:Hid (Aq q d=z):=hid (by rw[<-m];unfold Aq;first|rw[if_pos G,hx0,hx1,X,W]|rw[if_neg G]);have M:=hid C;clear m C;go_upto_region 15 with fail;refine bP a [] (λ_ _=>aZ) (λ_ _=>emp) (λ_=>[]) (λ|1=>[0]|3=>[0]|_=>[]) (λ_=>[]) [0,1,2] (λo=>?_);refine pK ?_;refine sH 0 c.out ?_;refine pK ?_;refine sH 0 c.out ?_;refine br ?_;refine bS λks a=>?_;go_upto_region 16 with fail;refine ar ?_;refine mM ?_;refine o7 a 0 c.out ?_;refine ag ?_;refine mM ?_;refine o7 a 0 c.out ?_;refine mM ?_;refine o7 a 0 c.out ?_;iterate 3 refine pu ?_
      refine ag ?_;refine ak ?_;go_upto_region 17 with fail;refine ar ?_;refine ag ?_;refine mM ?_;refine o7 a 0 c.out ?_;refine pu ?_;refine mM ?_;refine o7 a 0 c.out ?_;refine ag ?_;refine mM ?_;refine o7 a 0 c.out ?_;iterate 3 refine pu ?_
      refine ag ?_;refine ak ?_;go_upto_region 18 with fail;refine bP a [3,5,8] (λi _=>match i with|3=>cb (kO (f[4]?.getD 0) 26)|5=>cb (kO (f[4]?.getD 0) 21)|8=>cb (kO (f[4]?.getD 0) 7)|_=>aZ) (λ_ _=>emp) (λ_=>[]) (λ|1=>[0]|18=>[2]|_=>[]) (λ_=>[]) [0,1,2,6,8,11] (λo=>?_);refine pK ?_;refine sH 0 c.out ?_;refine aL ?_;refine dE (λ_ _ _=>p5 _ (-6) 26 _ bj) ?_;refine aL ?_;refine dE (λ_ _ _=>p5 _ (-11) 21 _ bj) ?_;refine pM ?_;refine aL ?_;refine dE (λ_ _ _=>p5 _ (-25) 7 _ bj) ?_;iterate 2 refine pM ?_
      refine aL ?_;refine pM ?_;refine aL ?_;refine pM ?_;refine aL ?_;refine aM (J R (k:Int)) (λ_ _ _=>DF 3 (bc 153) (qh (J R 15)) 3 aa q aa aa ae k ae) ?_;refine pK ?_;refine sH 0 M.out ?_;refine pM ?_;refine aL ?_;refine bS λlf a=>?_;replace a:=a.drop 3;replace a:=a.drop 3;replace a:=a.drop 3;go_upto_region 19 with fail;refine ar ?_;refine ag ?_;refine bC (p5 _ (-2) 30 _ bj) a (λmm a=>?_);refine ag ?_;refine bC (p5 _ (-13) 19 _ bj) a (λnU a=>?_);refine pu ?_;refine ag ?_;refine bC (p5 _ (-22) 10 _ bj) a (λpa a=>?_);refine pu ?_;refine ag ?_;refine pu ?_;refine ag ?_;refine ak ?_;go_upto_region 20 with fail;refine bP a [2] (λi _=>match i with|2=>J R 7|_=>aZ) (λ_=>λ|2=>ah L (aY cb (As f) []) 352|_=>emp) (λ|2=>[0]|_=>[]) (λ_=>[]) (λ_=>[]) [1,2,5] (λo=>?_);refine br ?_;refine DS (J R 7) (λ_ _ a=>Yf ((f.take 7).map cb) aa aa aa (a.a1 0) (λj v P=>Yg (a.a1 0) c.out P) (n:=7) (by simp[c.out]) (aeg c.out) aa (by rw[j7,c.out];decide) (λv hv=>by obtain⟨x,_,rfl⟩:=gN.1 hv;rfl) aa aw) ?_;refine bS λta a=>?_;go_upto_region 21 with fail;refine ar ?_;refine mM ?_;refine o7 a 2 (Cw c.out) ?_;refine ag ?_;refine pu ?_;refine mM ?_;refine E1 a 2 (Cw c.out) (λtb a=>?_);refine ak ?_;go_upto_region 22 with fail;refine ar ?_;refine v2 ?_;refine pu ?_;refine mM ?_;refine E1 a 2 (wz.trans (Cw c.out)) (λxo a=>?_);refine ak ?_;go_wp2_with fail;go_roundw;case rel=>exact⟨q+1,ae,by go_num,by rw[vK,Ix,y.out.1,y.out.2,N.out,hx0];exact a.pick [2,1,0]⟩
      case measure=>simp[cx];omega
     .have anD:¬(16:Int)<=(q:Int):=ae;go_upto_region 9 with fail;refine ar ?_;refine ag ?_;refine aJ (cb (yE[q]?.getD 0)) (SG 435 315 64 (bc 64) (bc 65) aa VQ aw aw cb yE q aa aa hlt SI) ?_;refine v2 ?_;refine ak ?_;go_upto_region 10 with fail;refine ar ?_;refine v2 ?_;refine ak ?_;obtain⟨z,m⟩:=ex d;rw[m]at a;have C:z.length=16:=by rw[<-m];exact r.out
      have N:Hid (Aq q d=z):=hid (by rw[<-m];unfold Aq;first|rw[if_pos G,hx0,hx1,X,W]|rw[if_neg G]);have M:=hid C;clear m C;go_upto_region 15 with fail;refine bP a [] (λ_ _=>aZ) (λ_ _=>emp) (λ_=>[]) (λ|1=>[0]|3=>[0]|_=>[]) (λ_=>[]) [0,1,2] (λo=>?_);refine pK ?_;refine sH 0 c.out ?_;refine pK ?_;refine sH 0 c.out ?_;refine br ?_;refine bS λAB a=>?_;go_upto_region 16 with fail;refine ar ?_;refine mM ?_;refine o7 a 0 c.out ?_;refine ag ?_;refine mM ?_;refine o7 a 0 c.out ?_;refine mM ?_;refine o7 a 0 c.out ?_;iterate 3 refine pu ?_
      refine ag ?_;refine ak ?_;go_upto_region 17 with fail;refine ar ?_;refine ag ?_;refine mM ?_;refine o7 a 0 c.out ?_;refine pu ?_;refine mM ?_;refine o7 a 0 c.out ?_;refine ag ?_;refine mM ?_;refine o7 a 0 c.out ?_;iterate 3 refine pu ?_
      refine ag ?_;refine ak ?_;go_upto_region 18 with fail;refine bP a [3,5,8] (λi _=>match i with|3=>cb (kO (f[4]?.getD 0) 26)|5=>cb (kO (f[4]?.getD 0) 21)|8=>cb (kO (f[4]?.getD 0) 7)|_=>aZ) (λ_ _=>emp) (λ_=>[]) (λ|1=>[0]|18=>[1]|_=>[]) (λ_=>[]) [0,1,2,6,8,11] (λo=>?_);refine pK ?_;refine sH 0 c.out ?_;refine aL ?_;refine dE (λ_ _ _=>p5 _ (-6) 26 _ bj) ?_;refine aL ?_;refine dE (λ_ _ _=>p5 _ (-11) 21 _ bj) ?_;refine pM ?_;refine aL ?_;refine dE (λ_ _ _=>p5 _ (-25) 7 _ bj) ?_;iterate 2 refine pM ?_
      refine aL ?_;refine pM ?_;refine aL ?_;refine pM ?_;refine aL ?_;refine aM (J R (k:Int)) (λ_ _ _=>DF 3 (bc 153) (qh (J R 15)) 3 aa q aa aa ae k ae) ?_;refine pK ?_;refine sH 0 M.out ?_;refine pM ?_;refine aL ?_;refine bS λCI a=>?_;replace a:=a.drop 3;replace a:=a.drop 3;replace a:=a.drop 3;go_upto_region 19 with fail;refine ar ?_;refine ag ?_;refine bC (p5 _ (-2) 30 _ bj) a (λCJ a=>?_);refine ag ?_;refine bC (p5 _ (-13) 19 _ bj) a (λFm a=>?_);refine pu ?_;refine ag ?_;refine bC (p5 _ (-22) 10 _ bj) a (λIP a=>?_);refine pu ?_;refine ag ?_;refine pu ?_;refine ag ?_;refine ak ?_;go_upto_region 20 with fail;refine bP a [2] (λi _=>match i with|2=>J R 7|_=>aZ) (λ_=>λ|2=>ah L (aY cb (As f) []) 352|_=>emp) (λ|2=>[0]|_=>[]) (λ_=>[]) (λ_=>[]) [1,2,5] (λo=>?_);refine br ?_;refine DS (J R 7) (λ_ _ a=>Yf ((f.take 7).map cb) aa aa aa (a.a1 0) (λj v P=>Yg (a.a1 0) c.out P) (n:=7) (by simp[c.out]) (aeg c.out) aa (by rw[j7,c.out];decide) (λv hv=>by obtain⟨x,_,rfl⟩:=gN.1 hv;rfl) aa aw) ?_;refine bS λTZ a=>?_;go_upto_region 21 with fail;refine ar ?_;refine mM ?_;refine o7 a 2 (Cw c.out) ?_;refine ag ?_;refine pu ?_;refine mM ?_;refine E1 a 2 (Cw c.out) (λT0 a=>?_);refine ak ?_;go_upto_region 22 with fail;refine ar ?_;refine v2 ?_;refine pu ?_;refine mM ?_;refine E1 a 2 (wz.trans (Cw c.out)) (λT1 a=>?_);refine ak ?_;go_wp2_with fail;go_roundw;case rel=>exact⟨q+1,ae,by go_num,by rw[vK,Ix,y.out.1,y.out.2,N.out,hx0];exact a.pick [2,0,1]⟩
      case measure=>simp[cx];omega
    .obtain rfl:q=64:=ae;replace a:=a.drop 1;go_upto_region 24 with fail;refine ar ?_;refine MC a 0 c.out ?_;refine ag ?_;refine KU ?_;go_loopw [182] (λh wr=>∃q:Nat,q<=8/\h=J R q/\ai w (λb=>b=B) wr [ah B (aY cb (Ax f ws q) [s,J R n]) t]) (λh wr=>8 -(cx h).toNat);case atStart=>exact⟨0,cQ _,aa,a.drop 0⟩
     case round=>
      clear a;obtain⟨q,U,rfl,a⟩:=hrel;by_cases hlt:q<8
      .have T:(q:Int)<8:=ae;go_upto_region 26 with fail;refine ar ?_;refine ag ?_;refine aJ (cb (f[q]?.getD 0)) (SG 352 315 8 (bc 181) (bc 182) aa underlying352 aw aw cb f q aa aa hlt c.out) ?_;refine v2 ?_;refine ak ?_;go_upto_region 27 with fail;refine bP a [11] (λ_ _=>aZ) (λ_=>λ|11=>ah B (aY cb ((Ax f ws q).set q (a32 ((Ax f ws q)[q]?.getD 0) (f[q]?.getD 0))) [s,J R n]) t|_=>emp) (λ|11=>[0]|_=>[]) (λ|5=>[0]|_=>[]) (λ_=>[]) [12] (λo=>?_);refine ix ?_;refine pK ?_;refine sH 0 (MW u.out q) ?_;refine aL ?_;refine pM ?_;refine br ?_;refine pK ?_;refine QU (MW u.out q) ?_;refine bS λT2 a=>?_;go_wp2_with fail;go_roundw;case rel=>exact⟨q+1,ae,by go_num,a⟩
       case measure=>simp[cx];omega
      .obtain rfl:q=8:=ae;refine dT ?_;refine⟨aa,a.only,?_⟩;rw[DG,y.out.2];exact a.a1 0
end
end Go.Proofs.YtcmhplknoglbkaaGreat
