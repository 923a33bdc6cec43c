/- Part 18 of the proof of TopConvertsSaid. -/
import Derived.DeepKeys4
import Derived.Maps.OwnOps
import Derived.Test.YtcmhplknoglbkaaGreat0
import Derived.Test.YtcmhplknoglbkaaGreat6
import Derived.Test.YtcmhplknoglbkaaGreat7
import Derived.Test.YtcmhplknoglbkaaGreat12
import Derived.Test.YtcmhplknoglbkaaGreat17
set_option linter.all false
set_option maxRecDepth 100000
set_option maxHeartbeats 4000000
open Go.Proofs.Tryz
open Bool renaming false->au,true->aB
open Go renaming Calls->aD,wpList_nil->ak,wp_region_lit->ar
open Go.Ending renaming returned->aA
open Go.IntKind renaming i64->R
open Go.Operand renaming tmp->bc
open Go.Proofs.Tryz renaming func209->UY,func281->Ot,ntmps209->Vr,ntmps281->Oz,prog->ax,underlying3->j2
open Go.Value renaming bool->aj,int->J,pointer->ay,slice->ad,tuple->bh
open List renaming foldl_cons->zp,getElem?_map->kB,mem_of_getElem?->cM,perm_append_comm->u7
open Nat renaming mul_le_mul_right->tE
open Option renaming none->af,some->ab
namespace Go.Proofs.YtcmhplknoglbkaaGreat
open Go.RowKit Go.MapKept
structure dM where
 size:Nat
 cnt:Nat
 bytes:List Int
 writes:Int
 keep:Int
 et:Int
 e0:Int
 ir:Int
 hi:Int
 cW:Int
 cache:List (Nat×List Int)
 down:Bool
def nu.plain(m:nu):List (Nat×List Int):=m.L.map (λx=>(x.sec,x.bs))
def pL(m:nu)(d:dM):Array Value:=#[J R (d.size:Int),ad (ab ⟨m.cC,0,af⟩) d.bytes.length d.bytes.length,J R d.writes,J .u64 d.keep,J R d.et,J R d.e0,J R d.ir,J R d.hi,J R d.cW,ad m.A m.L.length m.c,.map (ab m.e2),aj d.down]
def sT(l:List Nat)(i:Nat):Option Nat:=(l.foldl (λ(p:Nat×Option Nat) j=>(p.1+1,if j=i then ab p.1 else p.2)) (0,af)).2
def abR i:∀(l:List Nat) p,(l.foldl (λ(p) j=>(p.1+1,if j=i then ab p.1 else p.2)) p).1=p.1+l.length
 |[],p=>by simp
 |j::l,p=>by rw[zp,abR i l];simp;omega
theorem abS l(j i):sT (l++[j]) i=if j=i then ab l.length else sT l i:=by unfold sT;rw[List.foldl_append,zp,List.foldl_nil];have h:=abR i l (0,af);rw[h];simp
def abT{l i k}(h:sT l i=ab k):l[k]?=ab i:=by
 suffices a:∀n (l:List Nat),l.length=n->sT l i=ab k->l[k]?=ab i from a _ l aa h;intro n;induction n with
 |zero=>grind[sT]
 |succ n c=>
  intro l b h;have hne:l≠[]:=λe=>by grind
  rw[<-List.dropLast_concat_getLast hne]at h⊢;grind[abS]
def DX(x:Int):Value:=J R x
def jM(b:Nat)(l:List Nat):bu:=⟨λi=>i=b,λw=>∃a:List (Int×Value),dZ w b DX db a/\a.length<=l.length/\∀i:Nat,ed a (i:Int)=(sT l i).map (λk=>J R (k:Int)),λw w' h g e=>by obtain⟨a,⟨c,f,hb,r⟩,d⟩:=e;exact⟨a,⟨c,_,Ck h aa hb,r⟩,d⟩⟩
def l4(L:List Qb):List Value:=L.flatMap (λx=>[J R (x.sec:Int),ad x.A x.bs.length x.c])
theorem akx L x:l4 (L++[x])=l4 L++[J R (x.sec:Int),ad x.A x.bs.length x.c]:=by simp[l4]
def QA{L k x}(h:L[k]?=ab x):(l4 L)[k*2]?=ab (J R (x.sec:Int))/\(l4 L)[k*2+1]?=ab (ad x.A x.bs.length x.c):=by
 induction L generalizing k with
 |nil=>grind
 |cons y l a=>
  cases k with
  |zero=>
   obtain rfl:y=x:=aG;exact⟨aa,aa⟩
  |succ k=>grind[l4]
def lZ(L:List Qb):bu:=⟨λb=>∃x∈L,dV x.A b,λw=>∀x∈L,e3 0 w x.A x.c x.bs,λw w' h a d x hx=>(cf x.A x.c x.bs).ox w w' (λb hb=>h b ⟨x,hx,hb⟩) (λb hb=>a b ⟨x,hx,hb⟩) (d x hx)⟩
abbrev oe:Nat:=258
def aO(B:Nat)(m:nu)(d:dM):bu:=kN (d.cache=m.plain) (both (ah B (pL m d) 120) (both (ah m.cC (aY a' d.bytes []) 5) (both (jM m.e2 (d.cache.map (·.1))) (both (bp m.A m.L.length m.c oe 2 (l4 m.L)) (lZ m.L)))))
def ai.IL{an w FX l q t}(h:ai an FX w (kN q t::l)):q/\ai an FX w (t::l):=
 ⟨(h.holds _ (List.mem_cons_self ..)).1,h.as 0 aa t (λh=>h.2) (λ_ h=>h)⟩
def ai.kN{an w FX l q t}(h:ai an FX w (t::l))(a:q):ai an FX w (Go.Proofs.YtcmhplknoglbkaaGreat.kN q t::l):=
 h.as 0 aa (Go.Proofs.YtcmhplknoglbkaaGreat.kN q t) (λh=>⟨a,h⟩) (λ_ h=>h)
def ai.TF{an w FX l t}(h:ai an FX w (t::l)):ai an FX w (l++[t]):=h.perm (u7 (l₁:=[t]) (l₂:=l))
def ai.zG{an w FX l B m d}(h:ai an FX w (aO B m d::l)):
 d.cache=m.plain/\ai an FX w (ah B (pL m d) 120::ah m.cC (aY a' d.bytes []) 5::jM m.e2 (d.cache.map (·.1))::bp m.A m.L.length m.c oe 2 (l4 m.L)::lZ m.L::l):=by
 obtain⟨g,h1⟩:=h.IL;have a:=h1.fi;have b:ai an FX w (both _ _::(l++[ah B _ _])):=a.TF;have e:ai an FX w (both _ _::((l++[ah B _ _])++[ah _ _ 5])):=b.fi.TF;have f:ai an FX w (both _ _::(((l++[ah B _ _])++[ah _ _ 5])++[jM _ _])):=e.fi.TF;refine⟨g,f.fi.perm ?_⟩;simp;refine(u7 (l₁:=[bp _ _ _ _ 2 _,lZ _]) (l₂:=l++[ah B _ _,ah _ _ 5,jM _ _])).trans ?_;simp;exact u7 (l₁:=l) (l₂:=_)
def ai.vh{an w FX l B m d}(f:d.cache=m.plain)(h:ai an FX w (ah B (pL m d) 120::ah m.cC (aY a' d.bytes []) 5::jM m.e2 (d.cache.map (·.1))::bp m.A m.L.length m.c oe 2 (l4 m.L)::lZ m.L::l)):
 ai an FX w (aO B m d::l):=by
 have h1:ai an FX w (bp m.A m.L.length m.c oe 2 (l4 m.L)::lZ m.L::(l++[ah B (pL m d) 120,ah m.cC (aY a' d.bytes []) 5,jM m.e2 (d.cache.map (·.1))])):=h.perm (by grind[u7,bp,lZ])
 have r:∀(a b c s),ai an FX w (s::(l++[a,b,c]))->ai an FX w (c::s::(l++[a,b])):=λa b c s h=>h.perm (by have e:s::(l++[a,b,c])=(s::(l++[a,b]))++[c]:=aU;rw[e];exact u7)
 have g:∀(a b s),ai an FX w (s::(l++[a,b]))->ai an FX w (b::s::(l++[a])):=λa b s h=>h.perm (by have e:s::(l++[a,b])=(s::(l++[a]))++[b]:=aU;rw[e];exact u7);have i:∀(a s),ai an FX w (s::(l++[a]))->ai an FX w (a::s::l):=λa s h=>h.perm (by grind[u7]);exact((i _ _ (g _ _ _ (r _ _ _ _ h1.star).star).star).star).kN f
structure dS (d:dM):Prop where
 mj:1<=d.size
 ve:1<=d.cnt
 len:d.bytes.length=d.cnt*d.size
 small:d.cnt*d.size<=1048576
 cache:∀x∈d.cache,x.1<d.cnt/\x.2.length=d.size
 en:d.cache.length<=1073741824
 wr:db d.writes
def dS.Bs{d}(h:dS d):d.cnt<=1048576/\d.size<=1048576:=by have h1:=h.small;have a:=Nat.le_mul_of_pos_right d.cnt h.mj;have b:=Nat.le_mul_of_pos_left d.size h.ve;omega
def Has.dev{w B m d}(h:Has w (aO B m d)):aX w B (pL m d) 120:=h.1.2.1
abbrev di(B:Nat):Value:=ay (ab ⟨B,0,af⟩)
def QY B m d w(hb:aX w B (pL m d) 120)(b:dS d):
 aD ax 203 #[ay (ab ⟨B,0,af⟩)] w λe w'=>e=aA (J R (d.cnt:Int))/\ao w w':=by
 have c:d.bytes.length/d.size=d.cnt:=by rw[b.len];exact Nat.mul_div_cancel _ b.mj
 have f:=b.Bs;go_enter func203,ntmps203;have a:=bg w;go_step;refine aF ?_;refine ih ?_;refine bP a [] (λ_ _=>undef) (λ_ _=>emp) (λ_=>[]) (λ_=>[]) (λ_=>[]) [] (λg=>?_);refine c7 ?_;refine aM (ad _ _ _) (λ_ _ a=>fz aa aa (aX.aI hb a.only) aa aw) ?_;refine ix ?_;refine aM (J _ _) (λ_ _ a=>fz aa aa (aX.aI hb a.only) aa aw) ?_;refine aM _ (λ_ _ _=>Bl 3 _ _ 3 aa _ _ _ aa aa b.mj c ae) ?_;refine aL ?_;refine bS λw1 a=>?_;go_wp2_with fail;go_ret;exact⟨aa,a.only⟩
def wK B m d w(hb:aX w B (pL m d) 120)(b:dS d):
 aD ax 51 #[ay (ab ⟨B,0,af⟩)] w λe w'=>e=aA (J R (d.size:Int))/\ao w w':=by
 go_enter func51,ntmps51;have a:=bg w;go_step;refine aF ?_;refine cK ?_;refine pk (aj au) ?_;refine oJ ?_;refine iL hb a.only ?_;refine bR ?_;go_wp2_with fail;go_ret;exact⟨aa,a.only⟩
def KP B m d w(hb:aX w B (pL m d) 120)(b:dS d):
 aD ax 124 #[ay (ab ⟨B,0,af⟩)] w λe w'=>e=aA (J R (d.cnt:Int))/\ao w w':=by
 go_enter func124,ntmps124;have a:=bg w;go_step;refine aF ?_;refine cK ?_;refine pk (aj au) ?_;refine jt ?_;refine bC (QY B m d _ (aX.aI hb a.only) b) a (λw1 a=>?_);refine bR ?_;go_wp2_with fail;go_ret;exact⟨aa,a.only⟩
def YC B m d(i:Nat)(hi:i<d.cnt)w(hb:aX w B (pL m d) 120)(b:dS d):
 aD ax 146 #[ay (ab ⟨B,0,af⟩),J R (i:Int)] w λe w'=>e=aA (ad (fF (ab ⟨m.cC,0,af⟩) d.bytes.length (i*d.size) 1) d.size (d.bytes.length -i*d.size))/\ao w w':=by
 have c:i*d.size+d.size=(i+1)*d.size:=aG;have hle:(i+1)*d.size<=d.bytes.length:=by rw[b.len];exact tE _ hi
 have hsm:d.bytes.length<=1048576:=by rw[b.len];exact b.small
 have f:=b.Bs;go_enter func146,ntmps146;have a:=bg w;go_step;refine aF ?_;refine ih ?_;refine bP a [] (λ_ _=>undef) (λ_ _=>emp) (λ_=>[]) (λ_=>[]) (λ_=>[]) [] (λg=>?_);refine c7 ?_;refine aM (ad _ _ _) (λ_ _ a=>fz aa aa (aX.aI hb a.only) aa aw) ?_;refine ix ?_;refine aM (J _ _) (λ_ _ a=>fz aa aa (aX.aI hb a.only) aa aw) ?_;refine aM _ (λ_ _ _=>nE 3 _ _ 3 aa _ _ ((i*d.size:Nat):Int) aa aa aT ae ae) ?_;refine aL ?_;refine aM _ (λ_ _ _=>lK 3 _ _ 3 aa _ _ ((i+1:Nat):Int) aa aa ae ae ae) ?_;refine c7 ?_;refine aM (J _ _) (λ_ _ a=>fz aa aa (aX.aI hb a.only) aa aw) ?_;refine aM _ (λ_ _ _=>nE 3 _ _ 3 aa _ _ (((i+1)*d.size:Nat):Int) aa aa aT ae ae) ?_;refine aM _ (λ_ _ _=>IA 22 5 1 _ _ _ aa Tryz.underlying22 aw _ _ _ _ _ _ aa aa aa c hle) ?_;refine aL ?_;refine bS λw1 a=>?_;go_wp2_with fail;go_ret;exact⟨aa,a.only⟩
def j9(d:dM)(i:Int):Int:=if d.down=aB then 18 else if i<0\/(d.cnt:Int)<=i then 2 else 0
def KN{w B m d b}(h:aX w B (pL m d) 120)(e:d.down=b):aX w B #[J R (d.size:Int),ad (ab ⟨m.cC,0,af⟩) d.bytes.length d.bytes.length,J R d.writes,J .u64 d.keep,J R d.et,J R d.e0,J R d.ir,J R d.hi,J R d.cW,ad m.A m.L.length m.c,.map (ab m.e2),aj b] 120:=by subst e;exact h
def QW B m d i w(hb:aX w B (pL m d) 120)(h:dS d):
 aD ax 281 #[di B,J R i] w λe w'=>e=aA (J R (j9 d i))/\ao w w':=by
 have f:=hid hb;clear hb;rcases cZ:d.down with _|_
 .by_cases j:i<0
  .have b:j9 d i=2:=by grind[j9]
   rw[b];clear b;have c:=hid cZ;clear cZ;go_enter Ot,Oz;have a:=bg w;go_step;refine aF ?_;refine ag ?_;refine ak ?_;go_step;refine aF ?_;refine ag ?_;refine pk (aj au) ?_;refine ag ?_;refine ak ?_;go_step;refine aF ?_;refine v3 ?_;refine iL (KN f c) a.only ?_;refine ag ?_;refine ak ?_;go_step;refine aF ?_;refine ag ?_;refine cd (aj aB) ?_;refine ag ?_;iterate 6 refine ps ?_
   refine pk (aj aB) ?_;refine ag ?_;refine ak ?_;go_step;refine aF ?_;refine ag ?_;refine ak ?_;go_wp2_with fail;go_ret;exact⟨aa,a.only⟩
  .by_cases h1:(d.cnt:Int)<=i
   .have b:j9 d i=2:=by grind[j9]
    rw[b];clear b;have c:=hid cZ;clear cZ;go_enter Ot,Oz;have a:=bg w;go_step;refine aF ?_;refine ag ?_;refine ak ?_;go_step;refine aF ?_;refine ag ?_;refine pk (aj au) ?_;refine ag ?_;refine ak ?_;go_step;refine aF ?_;refine v3 ?_;refine iL (KN f c) a.only ?_;refine ag ?_;refine ak ?_;go_step;refine aF ?_;refine ag ?_;refine cd (aj au) ?_;refine v5 ?_;refine a7 (QY B m d _ (aX.aI f a.only) h) ?_;rintro e w1 ⟨rfl,g⟩;replace a:=a.aI g;refine bb ?_;refine cd (aj aB) ?_;refine pk (aj aB) ?_;refine ag ?_;refine ak ?_;go_step;refine aF ?_;refine ag ?_;refine ak ?_;go_wp2_with fail;go_ret;exact⟨aa,a.only⟩
   .have b:j9 d i=0:=by grind[j9]
    rw[b];clear b;have c:=hid cZ;clear cZ;go_enter Ot,Oz;have a:=bg w;go_step;refine aF ?_;refine ag ?_;refine ak ?_;go_step;refine aF ?_;refine ag ?_;refine pk (aj au) ?_;refine ag ?_;refine ak ?_;go_step;refine aF ?_;refine v3 ?_;refine iL (KN f c) a.only ?_;refine ag ?_;refine ak ?_;go_step;refine aF ?_;refine ag ?_;refine cd (aj au) ?_;refine v5 ?_;refine a7 (QY B m d _ (aX.aI f a.only) h) ?_;rintro e k ⟨rfl,g⟩;replace a:=a.aI g;refine bb ?_;refine cd (aj au) ?_;refine pk (aj au) ?_;refine ag ?_;refine ak ?_;go_step;refine aF ?_;refine ag ?_;refine ak ?_;go_wp2_with fail;go_ret;exact⟨aa,a.only⟩
 .have b:j9 d i=18:=by grind[j9]
  rw[b];clear b;have c:=hid cZ;clear cZ;go_enter Ot,Oz;have a:=bg w;go_step;refine aF ?_;refine ag ?_;refine ak ?_;go_step;refine aF ?_;refine ag ?_;refine pk (aj au) ?_;refine ag ?_;refine ak ?_;go_step;refine aF ?_;refine v3 ?_;refine iL (KN f c) a.only ?_;refine ag ?_;refine ak ?_;go_step;refine aF ?_;refine ag ?_;refine ak ?_;go_wp2_with fail;go_ret;exact⟨aa,a.only⟩
section
open Go.RowKit Go.MapKept Go.WideMaps
def abP:sg ax 3 DX db:=
 ⟨Maps.int_keyed j2,λh=>⟨_,Maps.keyOf_int_mk j2 (WalkArith.wf_i64 h)⟩,λh=>by grind[DX]⟩
def GD{w}{B t:Nat}{bs}(h:aX w B (aY a' bs []) t):bT w (ab ⟨B,0,af⟩) bs:=λ_=>⟨B,0,rfl,λj a=>by rw[Nat.zero_add];exact h.cell j (Kn a)⟩
def Has.YA{w B m d}(h:Has w (aO B m d)):aX w m.cC (aY a' d.bytes []) 5:=h.1.2.2.1.1
def Has.last{w B m d}(h:Has w (aO B m d)):(jM m.e2 (d.cache.map (·.1))).p w:=h.1.2.2.1.2.1.1
def Has.row{w B m d}(h:Has w (aO B m d)):Row 0 w m.A m.L.length m.c oe 2 (l4 m.L):=h.1.2.2.1.2.1.2.1.1
def Has.asg{w B m d}(h:Has w (aO B m d)):∀x∈m.L,e3 0 w x.A x.c x.bs:=h.1.2.2.1.2.1.2.1.2.1
def Has.plain{w B m d}(h:Has w (aO B m d)):d.cache=m.plain:=h.1.1
section
variable {o:Oper} {a:Act} {w:World}
def Uh:∀w:World,(zeroValue 3).run ax w=.ok (J R 0) w:=λw=>TK aw w
def acM{m x}{b i:Nat}{l}(j:o.op=.lookup 118 m x aB)(g:a.eval m=.map (ab b))(hx:a.eval x=J R (i:Int))(h:(jM b l).p w)(hi:i<=1073741824):
 (execOp a.eval o).run ax w=.ok (.value (bh #[((sT l i).map (λk=>J R (k:Int))).getD (J R 0),aj (sT l i).isSome])) w:=by
 obtain⟨n,f,_,d⟩:=h;have c:=(f.lookup abP Tryz.underlying118 Uh (x:=(i:Int)) ⟨ae,ae⟩).2;rw[d i]at c;unfold execOp;simp only[j,g,hx];have e:(DX (i:Int))=J R (i:Int):=rfl;rw[e]at c;simp only[Sem.run_bind,c,Result.andThen_ok,Sem.run_pure];cases sT l i<;>rfl
end
def alQ B m d w(h:Has w (aO B m d))(f:dS d):
 aD ax 15 #[di B] w λe w'=>∃b c,e=aA (ad b d.bytes.length c)/\b5 w w' (cf b c d.bytes):=by
 have hb:=h.dev;have j:Hid (∀W,ao w W->bT W (ab ⟨m.cC,0,af⟩) d.bytes):=hid (λW g=>(GD h.YA).aI g);have hsm:d.bytes.length<=1048576:=by rw[f.len];exact f.small
 go_enter func15,ntmps15;have a:=bg w;go_upto_region 0 with fail;refine ar ?_;refine ag ?_;refine ak ?_;go_upto_region 1 with fail;refine ar ?_;refine ag ?_;refine aJ (aj au) (by(show _=_;kernel_rfl)) ?_;refine ak ?_;go_upto_region 3 with fail;refine ar ?_;iterate 4 refine ag ?_
 refine aJ (ad (ab ⟨m.cC,0,af⟩) d.bytes.length d.bytes.length) (fz aa aa (aX.aI hb a.only) aa aw) ?_;refine a7 (wI (ab ⟨m.cC,0,af⟩) d.bytes.length d.bytes _ (j.out _ a.only) ae) ?_;rintro e w1 ⟨i,k,rfl,hrow,g⟩;replace a:=a.js g (Row.nS hrow);refine bb ?_;refine ag ?_;refine ak ?_;go_wp2_with fail;go_ret;exact⟨i,k,aa,a.fresh 0⟩
def Q0 B m d w(b:Has w (aO B m d)):
 aD ax 21 #[di B] w λe w'=>e=aA (.agg #[J R d.et,J R d.e0,J R d.ir,J R d.hi,J R d.cW])/\ao w w':=by
 have hb:=b.dev;go_enter func21,ntmps21;have a:=bg w;go_upto_region 0 with fail;refine ar ?_;refine bA a #[J R 0,J R 0,J R 0,J R 0,J R 0] (λc w1 a=>?_);refine b6 ?_;refine pk (aj au) ?_;refine jt ?_;refine aJ (.agg #[J R d.et,J R d.e0,J R d.ir,J R d.hi,J R d.cW]) (mg (cs':=#[J R d.et,J R d.e0,J R d.ir,J R d.hi,J R d.cW]) aa aa (aX.aI hb a.only) aw (of_decide_eq_true aw) aw aw) ?_;refine ba a 0 (.agg #[J R d.et,J R d.e0,J R d.ir,J R d.hi,J R d.cW]) (λf a=>?_);refine ak ?_;go_wp2_with fail;refine bodyPost_ret (v:=_) (results_cell_row aa _ _ _ _ _ _ _ aa (a.a1 0) underlying68 aa aw) aa (⟨aa,a.only⟩)
def mO(d:dM)(i:Nat):List Int:=match sT (d.cache.map (·.1)) i with|some k=>((d.cache[k]?).map (·.2)).getD []|none=>(d.bytes.drop (i*d.size)).take d.size
theorem Is{d}(h:dS d){i}(hi:i<d.cnt):(mO d i).length=d.size:=by
 unfold mO;cases hq:sT (d.cache.map (·.1)) i with
 |some k=>
  have h1:=abT hq;rw[kB]at h1;cases hk:d.cache[k]? with
  |none=>grind
  |some x=>simpa [hk]using(h.cache x (cM hk)).2
 |none=>
  have h1:(i+1)*d.size<=d.cnt*d.size:=tE _ hi;rw[Nat.add_mul,Nat.one_mul]at h1;have:=h.len;simp;omega
def Yy{w B m d A}(h:aX w B (pL m d) 120)(e:m.A=A):aX w B #[J R (d.size:Int),ad (ab ⟨m.cC,0,af⟩) d.bytes.length d.bytes.length,J R d.writes,J .u64 d.keep,J R d.et,J R d.e0,J R d.ir,J R d.hi,J R d.cW,ad A m.L.length m.c,.map (ab m.e2),aj d.down] 120:=by subst e;exact h
def QX{d i}(h:j9 d i=0):∃n:Nat,i=n/\n<d.cnt:=by
 unfold j9 at h;split at h;·omega
 .split at h;·omega
  .exact⟨i.toNat,ae,ae⟩
def YB B m d i w(f:Has w (aO B m d))(j:dS d):
 aD ax 209 #[di B,J R i] w λe w'=>(j9 d i≠0/\e=aA (bh #[ad af 0 0,J R (j9 d i)])/\ao w w')\/(j9 d i=0/\∃n:Nat,i=n/\n<d.cnt/\∃s v,e=aA (bh #[ad s d.size v,J R 0])/\b5 w w' (cf s v (mO d n))):=by
 have hb:=f.dev;have F:=hid hb;clear hb;have C:Hid (∀W,ao w W->aD ax 281 #[di B,J R i] W λe w'=>e=aA (J R (j9 d i))/\ao W w'):=hid (λW g=>QW B m d i W (f.aI g).dev j);obtain⟨bq,r⟩:=ex (j9 d i);rw[r]at C;by_cases K:bq=0
 .subst K;obtain⟨n,rfl,o⟩:=QX r;have t:=hid r;clear r;have fD:=j.Bs;have hsm:d.bytes.length<=1048576:=by rw[j.len];exact j.small
  have I:Hid (∀W,ao w W->(jM m.e2 (d.cache.map (·.1))).p W):=hid (λW g=>(jM _ _).only f.last (λb hb=>by have Y:b=m.e2:=hb;rw[Y];obtain⟨bk,Hv,_⟩:=f.last;exact Hv.lt) g (λ_ _ h=>h));rcases hq:sT (d.cache.map (·.1)) n with _|k
  .have hr:mO d n=(d.bytes.drop (n*d.size)).take d.size:=by rw[mO,hq]
   have D:=hid hr;clear hr;have G:=hid hq;clear hq;have hle:n*d.size+d.size<=d.bytes.length:=by have h1:=tE d.size o;rw[Nat.succ_mul]at h1;rw[j.len];exact h1
   have U:Hid (∀W,ao w W->bT W (fF (ab ⟨m.cC,0,af⟩) d.bytes.length (n*d.size) 1) (mO d n)):=hid (λW g=>by have h:=bT.win ((GD f.YA).aI g) (Nat.le_refl _) (i:=n*d.size) (q:=n*d.size+d.size) hle;rw[Nat.add_sub_cancel_left]at h;rw[D.out];exact h);have u:=hid (Is j o);go_enter UY,Vr;have a:=bg w;go_upto_region 0 with fail;refine ar ?_;refine v2 ?_;refine jb ?_;refine bC (C.out _ a.only) a (λw1 a=>?_);refine cK ?_;refine pk (aj au) ?_;refine jt ?_;refine iL F.out a.only ?_;refine ag ?_;refine aJ (bh #[J R 0,aj au]) (by(refine(acM (x:=bc 20) (m:=bc 19) aa aa aa (I.out _ a.only) (i:=n) ae).trans ?_;rw[G.out];rfl)) ?_;refine v5 ?_;refine aF ?_;refine AF ?_;refine bC (YC B m d n o _ (f.aI a.only).dev j) a (λaS a=>?_);refine a7 ((by have q:=wI (fF (ab ⟨m.cC,0,af⟩) d.bytes.length (n*d.size) 1) (d.bytes.length -n*d.size) (mO d n) _ (U.out _ a.only) (by rw[u.out];omega);rw[u.out]at q;exact q)) ?_;rintro e bN ⟨Q,X,rfl,hrow,g⟩;replace a:=a.js g (Row.nS (by rw[u.out];exact hrow));refine bb ?_;refine dQ ?_;go_wp2_with fail;go_ret2;exact .inr ⟨t.out,n,aa,o,Q,X,aa,a.fresh 0⟩
  .have z:=abT hq;rw[kB]at z;obtain⟨y,l⟩:∃y,m.L[k]?=ab y:=by rw[f.plain,nu.plain,kB]at z;cases l:m.L[k]? with|none=>(rw[l]at z;cases z)|some y=>exact⟨y,aa⟩
   have hr:mO d n=y.bs:=by unfold mO;rw[hq,f.plain];simp[nu.plain,l]
   have D:=hid hr;clear hr;have G:=hid hq;have mY:=hid l;have Z:k<m.L.length:=(List.getElem?_eq_some_iff.1 l).1;have O:=f.asg y (cM l);have hlen:y.bs.length=d.size:=by rw[<-D.out];exact Is j o
   have eV:m.L.length<=1073741824:=by have h:=j.en;rw[f.plain,nu.plain,List.length_map]at h;exact h
   obtain⟨E,M,hc1⟩:=f.row.cell (QA l).2;have S:Hid (∀W,ao w W->W.cell? ⟨E,k*2+1,af⟩=ab (ad y.A d.size y.c)):=hid (λW g=>by rw[<-hlen];exact g.cell hc1 (λh=>h));have T:Hid (∀W,ao w W->aD ax 65 #[ad y.A d.size y.c] W λe w'=>∃s v,e=aA (ad s d.size v)/\w'.ownsRow W.heap.size 5 1 (ad s d.size v) d.size ((mO d n).map a')/\ao W w'):=hid (λW g=>by have q:=wI y.A y.c y.bs W (O.1.aI g) ae;rw[hlen]at q;rw[D.out];exact q);have u:=hid (Is j o);have H:=hid M;clear hq l z O hc1 hlen M;go_enter UY,Vr;have a:=bg w;go_upto_region 0 with fail;refine ar ?_;refine v2 ?_;refine jb ?_;refine bC (C.out _ a.only) a (λcc a=>?_);refine cK ?_;refine pk (aj au) ?_;refine jt ?_;refine iL (Yy F.out H.out) a.only ?_;refine ag ?_;refine aJ (bh #[J R (k:Int),aj aB]) (by(refine(acM (x:=bc 20) (m:=bc 19) aa aa aa (I.out _ a.only) (i:=n) ae).trans ?_;rw[G.out];rfl)) ?_;refine v5 ?_;refine aF ?_;refine Uk ?_;refine iL (Yy F.out H.out) a.only ?_;refine ag ?_;refine aJ (ay (ab ⟨E,(k*2),af⟩)) (cI 117 258 2 (bc 28) (bc 29) aa underlying117 aw E 0 (m.L.length) (m.c) k ((k*2)) aa aa Z ae) ?_;refine aJ (ay (ab ⟨E,(k*2+1),af⟩)) (by(go_simp;try simp[Addr.add])) ?_;refine aJ (ad y.A d.size y.c) (by(have h:=S.out _ a.only;go_simp)) ?_;refine a7 (T.out _ a.only) ?_;rintro e cG ⟨P,V,rfl,hrow,g⟩;replace a:=a.js g (Row.nS (by rw[u.out];exact hrow));refine bb ?_;refine dQ ?_;go_wp2_with fail;go_ret2;exact .inr ⟨t.out,n,aa,o,P,V,aa,a.fresh 0⟩
 .have N:¬bq=0:=K;have t:=hid r;clear r;go_enter UY,Vr;have a:=bg w;go_upto_region 0 with fail;refine ar ?_;refine v2 ?_;refine jb ?_;refine bC (C.out _ a.only) a (λc6 a=>?_);refine cK ?_;refine aJ (aj aB) (by(go_simp;try simp[N])) ?_;refine aF ?_;refine v3 ?_;refine ak ?_;go_wp2_with fail;go_ret2;exact .inl ⟨by rw[t.out];exact N,by rw[t.out];rfl,a.only⟩
end
end Go.Proofs.YtcmhplknoglbkaaGreat
