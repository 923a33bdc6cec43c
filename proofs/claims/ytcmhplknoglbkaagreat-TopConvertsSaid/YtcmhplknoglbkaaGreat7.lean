/- Part 7 of the proof of TopConvertsSaid. -/
import Derived.Lib.AppendZerosOnto
import Derived.Test.YtcmhplknoglbkaaGreat0
import Derived.Test.YtcmhplknoglbkaaGreat4
import Derived.Test.YtcmhplknoglbkaaGreat6
set_option linter.all false
set_option maxRecDepth 100000
set_option maxHeartbeats 4000000
open Go.Proofs.Tryz
open Bool renaming false->au
open Go renaming Act->bV,Addr->bW,Calls->aD,FuncId->AL,Oper->cR,Operand->iz,Program->ew,TypeId->gm,Value->aP,World->aN,eqGuard->za,execOp->bw,maxLen->dO,run_underlying->gG,wpList->cH,wpList_step->rb,yielded->cY
open Go.Builtin renaming append_->oK,firstCells->q8,zeroCells->mT
open Go.Ending renaming returned->aA
open Go.IntKind renaming i64->R
open Go.Next renaming value->c8
open Go.Op renaming binOp->nv,indexAddr->C4,intDiv->Oj,load->nZ,store->y6
open Go.Oper renaming wp->hC
open Go.Region renaming wanted->c4
open Go.Result renaming ok->a8
open Go.Sem renaming run_bind->gl
open Go.TypeDesc renaming array->we,slice->hU
open Go.Value renaming agg->av,int->J,pointer->ay,slice->ad
open List renaming replicate->fu
open Nat renaming zero_le->cQ
open Option renaming none->af,some->ab
open Option.some renaming injEq->wC
namespace Go.Proofs.YtcmhplknoglbkaaGreat
section
open Go.RowKit Go.MapKept
section
variable {P:ew} {o:cR} {a:bV} {w:aN}
def nk{B k v ty x}(b:o.op=nZ ty x)(hx:a.eval x=ay (ab ⟨B,k,af⟩))(hc:w.cell? ⟨B,k,af⟩=ab v)(e:(P.underlying ty).map (λd=>d.isRow)=ab au):
 (bw a.eval o).run P w=a8 (c8 v) w:=by
 cases hq:P.underlying ty with
 |none=>grind
 |some d=>
  have c:d.isRow=false:=aG
  have hagg:(isAgg ty).run P w=a8 au w:=by unfold isAgg;rw[gl,gG hq w];cases d<;>simp_all
  unfold bw;simp[b,hx,Instr.loadAt,Instr.sureAddr,loadVar,hagg,hc]
def aeZ{t d x y p q}(b:o.op=nv .xor t x y d)(hx:a.eval x=cb p)(c:a.eval y=cb q):(bw a.eval o).run P w=a8 (c8 (cb (kt p q))) w:=by unfold bw;rw[b];simp only[hx,c];rfl
def aeX{t d x y p q}(b:o.op=nv .and t x y d)(hx:a.eval x=cb p)(c:a.eval y=cb q):(bw a.eval o).run P w=a8 (c8 (cb (n32 p q))) w:=by unfold bw;rw[b];simp only[hx,c];rfl
def aeY{t d x y p q}(b:o.op=nv .or t x y d)(hx:a.eval x=cb p)(c:a.eval y=cb q):(bw a.eval o).run P w=a8 (c8 (cb (xd p q))) w:=by unfold bw;rw[b];simp only[hx,c];rfl
def aeW{t d x y p q}(b:o.op=nv .add t x y d)(hx:a.eval x=cb p)(c:a.eval y=cb q):(bw a.eval o).run P w=a8 (c8 (cb (a32 p q))) w:=by unfold bw;rw[b];simp only[hx,c];rfl
def abF{t e m:Nat}{x c}{b i:Nat}(d:o.op=C4 t x c)(g:P.underlying t=ab (we m e))(f:(P.info? e).map (·.size)=ab 1)(hx:a.eval x=ay (ab ⟨b,0,af⟩))(hi:a.eval c=J R (i:Int))(h:i<m):
 (bw a.eval o).run P w=a8 (c8 (ay (ab ⟨b,i,af⟩))) w:=apP t e 1 m x c d g f b 0 i i hx hi h ae
end
section
variable {U:Int->aP} {L:List Int} {tail:List aP} {i k n:Nat} {v:Int} {x:aP}
def Xq(h:i<L.length)(a:(U v).cells=#[U v]:=by rfl):i+(U v).cells.size<=(aY U L tail).size:=by grind[j7]
def Km(a:L.length=n)(hk:k<tail.length)(hx:x.cells=#[x]:=by rfl):n+k+x.cells.size<=(aY U L tail).size:=by grind[j7]
def Xr(h:i<L.length)(a:(U v).cells=#[U v]:=by rfl):lay (aY U L tail) i (U v).cells.toList=aY U (L.set i v) tail:=by rw[a];exact ajx h v
def Ko(a:L.length=n)(hx:x.cells=#[x]:=by rfl):lay (aY U L tail) (n+k) x.cells.toList=aY U L (tail.set k x):=by rw[hx];exact ajy a x
end
section
variable {P:ew} {o:cR} {a:bV} {w:aN}
def ab2{B k v u}ty{x d}(c:o.op=nZ ty x)(hx:a.eval x=ay (ab ⟨B,k,af⟩))(f:w.cell? ⟨B,k,af⟩=ab v)(h1:w.cell? ⟨B,k+1,af⟩=ab u)(e:P.underlying ty=ab d)(b:d.isRow=true)(hi:(P.info? ty).map (·.size)=ab 2):
 (bw a.eval o).run P w=a8 (c8 (av #[v,u])) w:=e7 ty x c B k hx [v,u] (λj z hz=>aG) e b hi
end
def ef{a:Type}(cs:Array a):cs.extract 0 (0+cs.size)=cs:=aU
def aX.aI{w w'}{B t:Nat}{cs}(h:aX w B cs t)(g:ao w w'):aX w' B cs t:=by grind[aq.heap]
def Cc:∀(b P a),b.length<=a.length->lay (P++a).toArray P.length b=(P++(b++a.drop b.length)).toArray
 |[],P,a,_=>by rfl
 |v::b,P,[],h=>by grind
 |v::b,P,r::a,h=>by have c:=Cc b (P++[v]) a (by simpa using h);rw[lay,List.setIfInBounds_toArray,show(P++r::a).set P.length v=(P++[v])++a by simp,show P.length+1=(P++[v]).length by simp,c];simp
theorem lay_all{cs cs'}(h:cs'.size=cs.size):lay cs 0 cs'.toList=cs':=by have e:=Cc cs'.toList [] cs.toList aG;simp at e;grind
section
variable {U:Int->aP} {L:List Int} {tail:List aP} {n:Nat}
def aju{a}(c:L.length=n)(b:a.length=n):lay (aY U L tail) 0 (aY U a []).toList=aY U a tail:=by have e:=Cc (a.map U) [] (L.map U++tail) aG;grind[aY]
end
section
variable {P:ew} {ops:Array cR} {rest:List cR} {Q:Exit->bV->aN->Prop} {o:cR} {a bz:bV} {w:aN} {v:aP} {an:aN} {FX:Nat->Prop} {l l':List bu}
def ME {F:Nat->Prop} {B k:Nat} {ty:gm} {x:iz} (hc:an.cell? ⟨B,k,af⟩=ab v) (b:aq F an w) (h:cH P ops Q rest bz w) (c:¬F B:=by first|exact(λh=>h)|assumption) (e:o.op=nZ ty x:=by rfl) (hx:a.eval x=ay (ab ⟨B,k,af⟩):=by rfl) (f:(P.underlying ty).map (λd=>d.isRow)=ab false:=by kernel_rfl) (g:c4 o (cY ops a.tmps)=true:=by kernel_rfl)
 (ha:a.put o.dst v=bz:=by((try simp only[Act.put,List.setIfInBounds_toArray,List.set_cons_zero,List.set_cons_succ]);rfl)):cH P ops Q (o::rest) a w:=ag h g (nk e hx (b.cell hc c) f) ha
def Io (p q z:Int) (h:cH P ops Q rest bz w) {t b:gm} {x y:iz} (d:o.op=nv .mul t x y b:=by rfl) (hx:a.eval x=J R p:=by rfl) (f:a.eval y=J R q:=by rfl) (hz:p*q=z:=by omega) (h1:-9223372036854775808<=z:=by omega) (c:z<=9223372036854775807:=by omega) (e:c4 o (cY ops a.tmps)=true:=by kernel_rfl)
 (ha:a.put o.dst (J R z)=bz:=by((try simp only[Act.put,List.setIfInBounds_toArray,List.set_cons_zero,List.set_cons_succ]);rfl)):cH P ops Q (o::rest) a w:=ag h e (nE t x y b d p q z hx f hz h1 c) ha
def pu (h:cH P ops Q rest bz w) (hr:(bw a.eval o).run P w=a8 (c8 v) w:=by first|exact aeZ rfl rfl rfl|exact aeX rfl rfl rfl|exact aeY rfl rfl rfl|exact aeW rfl rfl rfl) (b:c4 o (cY ops a.tmps)=true:=by kernel_rfl)
 (ha:a.put o.dst v=bz:=by((try simp only[Act.put,List.setIfInBounds_toArray,List.set_cons_zero,List.set_cons_succ]);rfl)):cH P ops Q (o::rest) a w:=ag h b hr ha
def mM (h:cH P ops Q rest bz w) {t e m b i:Nat} {x c:iz} (f:o.op=C4 t x c:=by rfl) (j:P.underlying t=ab (we m e):=by rfl) (g:(P.info? e).map (·.size)=ab 1:=by kernel_rfl) (hx:a.eval x=ay (ab ⟨b,0,af⟩):=by rfl) (hi:a.eval c=J R (i:Int):=by rfl) (d:i<m:=by first|exact(of_decide_eq_true rfl)|omega) (k:c4 o (cY ops a.tmps)=true:=by kernel_rfl)
 (ha:a.put o.dst (ay (ab ⟨b,i,af⟩))=bz:=by((try simp only[Act.put,List.setIfInBounds_toArray,List.set_cons_zero,List.set_cons_succ]);rfl)):cH P ops Q (o::rest) a w:=ag h k (abF f j g hx hi d) ha
def o7 {B k t n:Nat} {U:Int->aP} {L:List Int} {tail:List aP} {ty:gm} {x:iz} (b:ai an FX w l) (j:Nat) (c:L.length=n) (h:cH P ops Q rest bz w) (e:l[j]?=ab (ah B (aY U L tail) t):=by rfl) (f:o.op=nZ ty x:=by rfl) (hx:a.eval x=ay (ab ⟨B,k,af⟩):=by rfl) (hk:k<n:=by first|exact(of_decide_eq_true rfl)|omega) (g:(P.underlying ty).map (λd=>d.isRow)=ab false:=by kernel_rfl) (i:c4 o (cY ops a.tmps)=true:=by kernel_rfl)
 (ha:a.put o.dst (U (L[k]?.getD 0))=bz:=by((try simp only[Act.put,List.setIfInBounds_toArray,List.set_cons_zero,List.set_cons_succ]);rfl)):cH P ops Q (o::rest) a w:=ag h i (fz f hx (b.a1 j e) (Kn (c▸hk)) g) ha
def E1 {B k t n:Nat} {U:Int->aP} {L:List Int} {tail:List aP} {ty:gm} {x y:iz} {z:Int} (c:ai an FX w l) (j:Nat) (b:L.length=n) (h:∀w',ai an FX w' l'->cH P ops Q rest bz w') (d:l[j]?=ab (ah B (aY U L tail) t):=by rfl) (e:o.op=y6 ty x y:=by rfl) (hx:a.eval x=ay (ab ⟨B,k,af⟩):=by rfl) (f:a.eval y=U z:=by rfl) (hk:k<n:=by first|exact(of_decide_eq_true rfl)|omega)
 (sM:(U z).cells=#[U z]:=by rfl) (h1:∀x,(U x).oneCell'=true:=by(intro _;rfl)) (hz:(P.info? ty).map (·.size)=ab (U z).cells.size:=by kernel_rfl) (hl:l.set j (ah B (aY U (L.set k z) tail) t)=l':=by((try simp only[List.set_cons_zero,List.set_cons_succ]);rfl)) (hw:c4 o (cY ops a.tmps)=true:=by kernel_rfl)
 (ha:a.put o.dst undef=bz:=by((try simp only[Act.put,List.setIfInBounds_toArray,List.set_cons_zero,List.set_cons_succ]);rfl)):cH P ops Q (o::rest) a w:=ba c j (U z) h d e hx f (Xq (b▸hk) sM) hz aG (Xr (b▸hk) sM) hl hw ha
def Cq {B t n:Nat} {U:Int->aP} {L b:List Int} {tail:List aP} {ty:gm} {x y:iz} (e:ai an FX w l) (j:Nat) (d:L.length=n) (c:b.length=n) (h:∀w',ai an FX w' l'->cH P ops Q rest bz w') (f:l[j]?=ab (ah B (aY U L tail) t):=by rfl) (g:o.op=y6 ty x y:=by rfl) (hx:a.eval x=ay (ab ⟨B,0,af⟩):=by rfl) (i:a.eval y=av (aY U b []):=by rfl)
 (sM:∀x,(U x).oneCell'=true:=by(intro _;rfl)) (hz:(P.info? ty).map (·.size)=ab n:=by kernel_rfl) (hl:l.set j (ah B (aY U b tail) t)=l':=by((try simp only[List.set_cons_zero,List.set_cons_succ]);rfl)) (hw:c4 o (cY ops a.tmps)=true:=by kernel_rfl)
 (ha:a.put o.dst undef=bz:=by((try simp only[Act.put,List.setIfInBounds_toArray,List.set_cons_zero,List.set_cons_succ]);rfl)):cH P ops Q (o::rest) a w:=ba e j (av (aY U b [])) h f g hx i (by show 0+(aY U b []).size<=_;rw[j7,j7,d,c];simp) (by show _=ab (aY U b []).size;rw[j7,c,hz];rfl) (Qi sM aU) (aju d c) hl hw ha
def Mz {B t n:Nat} {U:Int->aP} {L c:List Int} {fc b:List aP} {ty:gm} {x y:iz} (g:ai an FX w l) (j:Nat) (e:L.length=n) (d:c.length=n) (h:∀w',ai an FX w' l'->cH P ops Q rest bz w') (i:l[j]?=ab (ah B (aY U L fc) t):=by rfl) (k:o.op=y6 ty x y:=by rfl) (hx:a.eval x=ay (ab ⟨B,0,af⟩):=by rfl) (m:a.eval y=av (aY U c b):=by rfl) (f:b.length=fc.length:=by rfl)
 (sM:∀x,(U x).oneCell'=true:=by(intro _;rfl)) (bH:∀v∈b,v.oneCell'=true:=by simp[Value.oneCell']) (hz:(P.info? ty).map (·.size)=ab (n+b.length):=by kernel_rfl) (hl:l.set j (ah B (aY U c b) t)=l':=by((try simp only[List.set_cons_zero,List.set_cons_succ]);rfl)) (hw:c4 o (cY ops a.tmps)=true:=by kernel_rfl)
 (ha:a.put o.dst undef=bz:=by((try simp only[Act.put,List.setIfInBounds_toArray,List.set_cons_zero,List.set_cons_succ]);rfl)):cH P ops Q (o::rest) a w:=ba g j (av (aY U c b)) h i k hx m (by show 0+(aY U c b).size<=_;rw[j7,j7,e,d,f];simp) (by show _=ab (aY U c b).size;rw[j7,d,hz]) (Qi sM bH) (lay_all (by show(aY U c b).size=_;rw[j7,j7,e,d,f])) hl hw ha
def MC {B t n:Nat} {U:Int->aP} {L:List Int} {tail:List aP} {ty e:gm} {x:iz} (b:ai an FX w l) (j:Nat) (c:L.length=n) (h:cH P ops Q rest bz w) (d:l[j]?=ab (ah B (aY U L tail) t):=by rfl) (f:o.op=nZ ty x:=by rfl) (hx:a.eval x=ay (ab ⟨B,0,af⟩):=by rfl) (g:P.underlying ty=ab (we n e):=by rfl) (hz:(P.info? ty).map (·.size)=ab n:=by kernel_rfl) (i:c4 o (cY ops a.tmps)=true:=by kernel_rfl)
 (ha:a.put o.dst (av (aY U L []))=bz:=by((try simp only[Act.put,List.setIfInBounds_toArray,List.set_cons_zero,List.set_cons_succ]);rfl)):cH P ops Q (o::rest) a w:=ag h i (aqp ty e n x f B hx (b.a1 j d) c g hz) ha
def bC{f:AL}{args:Array aP}(hc:aD P f args w λe w'=>e=aA v/\ao w w')(b:ai an FX w l)(h:∀w',ai an FX w' l->cH P ops Q rest bz w')(hr:(bw a.eval o).run P w=a8 (.enter f args) w:=by(go_simp;try with_reducible rfl))(i:c4 o (cY ops a.tmps)=true:=by kernel_rfl)(c:a.put o.dst v=bz:=by((try simp only[Act.put,List.setIfInBounds_toArray,List.set_cons_zero,List.set_cons_succ]);rfl)):cH P ops Q (o::rest) a w:=
 a7 hc (λe w' ⟨d,g⟩=>d▸bb (h w' (b.aI g)) c) hr i
def dC{f:AL}{args:Array aP}{b:Option bW->Nat->aP}{bs:List Int}{bz:Option bW->Nat->bV}(hc:aD P f args w λe w'=>∃A c,e=aA (b A c)/\e3 w.heap.size w' A c bs/\ao w w')(d:ai an FX w l)(h:∀A c w',ai an FX w' (cf A c bs::l)->cH P ops Q rest (bz A c) w')(hr:(bw a.eval o).run P w=a8 (.enter f args) w:=by(go_simp;try with_reducible rfl))(k:c4 o (cY ops a.tmps)=true:=by kernel_rfl)(i:∀A c,a.put o.dst (b A c)=bz A c:=by(intro _ _;(try simp only[Act.put,List.setIfInBounds_toArray,List.set_cons_zero,List.set_cons_succ]);rfl)):cH P ops Q (o::rest) a w:=
 a7 hc (λe w' ⟨A,c,j,hb,g⟩=>j▸bb (h A c w' (d.js g hb)) (i A c)) hr k
end
section
variable {P:ew} {ops:Array cR} {rest:List cR} {Q:Exit->bV->aN->Prop} {o:cR} {a bz:bV} {v:aP} {an:aN} {FX:Nat->Prop} {dst:Nat->Option Tmp} {LE:List Nat} {bU:Nat->e4->aP} {bl:List bu} {out:(Nat->e4)->Nat->bu} {ins rd:Nat->List Nat} {fin:List Nat} {QP:List PanicEntry->aN->Prop} {us:Nat->e4} {i:Nat}
def l8 {B k:Nat} {ty:gm} {x:iz} (hc:an.cell? ⟨B,k,af⟩=ab v) (h:c9 P ops Q dst LE bU an FX bl out ins rd fin QP us (i+1) rest bz) (c:¬FX B:=by first|exact(λh=>h)|assumption) (e:o.op=nZ ty x:=by rfl) (hx:a.eval x=ay (ab ⟨B,k,af⟩):=by rfl) (f:(P.underlying ty).map (λd=>d.isRow)=ab false:=by kernel_rfl) (hi:decide (i∈LE)=false:=by kernel_rfl) (g:c4 o (cY ops a.tmps)=true:=by kernel_rfl)
 (ha:a.put o.dst v=bz:=by((try simp only[Act.put,List.setIfInBounds_toArray,List.set_cons_zero,List.set_cons_succ]);rfl)):c9 P ops Q dst LE bU an FX bl out ins rd fin QP us i (o::rest) a:=aM v (λ_ _ b=>nk e hx (b.only.cell hc c) f) h hi g ha
def pM (h:c9 P ops Q dst LE bU an FX bl out ins rd fin QP us (i+1) rest bz) (hr:∀w,(bw a.eval o).run P w=a8 (c8 v) w:=by(intro _;first|exact aeZ rfl rfl rfl|exact aeX rfl rfl rfl|exact aeY rfl rfl rfl|exact aeW rfl rfl rfl)) (hi:decide (i∈LE)=false:=by kernel_rfl) (b:c4 o (cY ops a.tmps)=true:=by kernel_rfl)
 (ha:a.put o.dst v=bz:=by((try simp only[Act.put,List.setIfInBounds_toArray,List.set_cons_zero,List.set_cons_succ]);rfl)):c9 P ops Q dst LE bU an FX bl out ins rd fin QP us i (o::rest) a:=aL h hi b hr ha
def pK (h:c9 P ops Q dst LE bU an FX bl out ins rd fin QP us (i+1) rest bz) {t e m b k:Nat} {x c:iz} (f:o.op=C4 t x c:=by rfl) (j:P.underlying t=ab (we m e):=by rfl) (g:(P.info? e).map (·.size)=ab 1:=by kernel_rfl) (hx:a.eval x=ay (ab ⟨b,0,af⟩):=by rfl) (hk:a.eval c=J R (k:Int):=by rfl) (d:k<m:=by first|exact(of_decide_eq_true rfl)|omega) (hi:decide (i∈LE)=false:=by kernel_rfl) (l:c4 o (cY ops a.tmps)=true:=by kernel_rfl)
 (ha:a.put o.dst (ay (ab ⟨b,k,af⟩))=bz:=by((try simp only[Act.put,List.setIfInBounds_toArray,List.set_cons_zero,List.set_cons_succ]);rfl)):c9 P ops Q dst LE bU an FX bl out ins rd fin QP us i (o::rest) a:=aL h hi l (λ_=>abF f j g hx hk d) ha
def sH {B k t n:Nat} {U:Int->aP} {L:List Int} {tail:List aP} {ty:gm} {x:iz} (j:Nat) (c:L.length=n) (h:c9 P ops Q dst LE bU an FX bl out ins rd fin QP us (i+1) rest bz) (f:o.op=nZ ty x:=by rfl) (hx:a.eval x=ay (ab ⟨B,k,af⟩):=by rfl) (e:∀Fr,((rd i).map (dm bl out us)++Fr)[j]?=ab (ah B (aY U L tail) t):=by(intro _;rfl)) (hk:k<n:=by first|exact(of_decide_eq_true rfl)|omega) (g:(P.underlying ty).map (λd=>d.isRow)=ab false:=by kernel_rfl) (hi:decide (i∈LE)=false:=by kernel_rfl) (l:c4 o (cY ops a.tmps)=true:=by kernel_rfl)
 (ha:a.put o.dst (U (L[k]?.getD 0))=bz:=by((try simp only[Act.put,List.setIfInBounds_toArray,List.set_cons_zero,List.set_cons_succ]);rfl)):c9 P ops Q dst LE bU an FX bl out ins rd fin QP us i (o::rest) a:=aM _ (λ_ Fr b=>fz f hx (b.a1 j (e Fr)) (Kn (c▸hk)) g) h hi l ha
def QU {B k t m n:Nat} {U:Int->aP} {L:List Int} {tail:List aP} {ty:gm} {x y:iz} {z:Int} (b:L.length=n) (h:c9 P ops Q dst LE bU an FX bl out ins rd fin QP us (i+1) rest bz) (d:ins i=[m]:=by rfl) (c:dm bl out us m=ah B (aY U L tail) t:=by rfl) (e:o.op=y6 ty x y:=by rfl) (hx:a.eval x=ay (ab ⟨B,k,af⟩):=by rfl) (f:a.eval y=U z:=by rfl) (hk:k<n:=by first|exact(of_decide_eq_true rfl)|omega)
 (sM:(U z).cells=#[U z]:=by rfl) (h1:∀x,(U x).oneCell'=true:=by(intro _;rfl)) (hz:(P.info? ty).map (·.size)=ab (U z).cells.size:=by kernel_rfl) (hl:∀u,bU i u=undef:=by(intro _;rfl)) (nL:∀u,out (dA us i u) i=ah B (aY U (L.set k z) tail) t:=by(intro _;rfl)) (hd:dst i=none:=by rfl) (jV:o.dst=none:=by rfl)
 (hi:decide (i∈LE)=true:=by kernel_rfl) (hw:c4 o (cY ops a.tmps)=true:=by kernel_rfl) (ha:a.put o.dst (bU i (us i))=bz:=by((try simp only[Act.put,List.setIfInBounds_toArray,List.set_cons_zero,List.set_cons_succ]);rfl)):c9 P ops Q dst LE bU an FX bl out ins rd fin QP us i (o::rest) a:=fZ (U z) h d c e hx f (Xq (b▸hk) sM) hz aG (Xr (b▸hk) sM) hl nL hd jV hi hw ha
def tO (p q z:Int) (h:c9 P ops Q dst LE bU an FX bl out ins rd fin QP us (i+1) rest bz) {t b:gm} {x y:iz} (d:o.op=nv .add t x y b:=by rfl) (hx:a.eval x=J R p:=by rfl) (f:a.eval y=J R q:=by rfl) (hz:p+q=z:=by omega) (h1:-9223372036854775808<=z:=by omega) (c:z<=9223372036854775807:=by omega) (hi:decide (i∈LE)=false:=by kernel_rfl) (e:c4 o (cY ops a.tmps)=true:=by kernel_rfl)
 (ha:a.put o.dst (J R z)=bz:=by((try simp only[Act.put,List.setIfInBounds_toArray,List.set_cons_zero,List.set_cons_succ]);rfl)):c9 P ops Q dst LE bU an FX bl out ins rd fin QP us i (o::rest) a:=aL h hi e (λ_=>lK t x y b d p q z hx f hz h1 c) ha
def GU (p q z:Int) (h:c9 P ops Q dst LE bU an FX bl out ins rd fin QP us (i+1) rest bz) {t b:gm} {x y:iz} (d:o.op=nv .sub t x y b:=by rfl) (hx:a.eval x=J R p:=by rfl) (f:a.eval y=J R q:=by rfl) (hz:p -q=z:=by omega) (h1:-9223372036854775808<=z:=by omega) (c:z<=9223372036854775807:=by omega) (hi:decide (i∈LE)=false:=by kernel_rfl) (e:c4 o (cY ops a.tmps)=true:=by kernel_rfl)
 (ha:a.put o.dst (J R z)=bz:=by((try simp only[Act.put,List.setIfInBounds_toArray,List.set_cons_zero,List.set_cons_succ]);rfl)):c9 P ops Q dst LE bU an FX bl out ins rd fin QP us i (o::rest) a:=aL h hi e (λ_=>pH t x y b d p q z hx f hz h1 c) ha
def KO (p q z:Int) (h:c9 P ops Q dst LE bU an FX bl out ins rd fin QP us (i+1) rest bz) {t b:gm} {x y:iz} (d:o.op=nv .mul t x y b:=by rfl) (hx:a.eval x=J R p:=by rfl) (f:a.eval y=J R q:=by rfl) (hz:p*q=z:=by omega) (h1:-9223372036854775808<=z:=by omega) (c:z<=9223372036854775807:=by omega) (hi:decide (i∈LE)=false:=by kernel_rfl) (e:c4 o (cY ops a.tmps)=true:=by kernel_rfl)
 (ha:a.put o.dst (J R z)=bz:=by((try simp only[Act.put,List.setIfInBounds_toArray,List.set_cons_zero,List.set_cons_succ]);rfl)):c9 P ops Q dst LE bU an FX bl out ins rd fin QP us i (o::rest) a:=aL h hi e (λ_=>nE t x y b d p q z hx f hz h1 c) ha
def dE {f:AL} {args:Array aP} (hc:∀w (Fr:List bu),ai an FX w ((ins i).map (dm bl out us)++((rd i).map (dm bl out us)++Fr))->aD P f args w λe w'=>e=aA v/\ao w w') (h:c9 P ops Q dst LE bU an FX bl out ins rd fin QP us (i+1) rest bz) (c:ins i=[]:=by rfl) (l:∀u,bU i u=v:=by(intro _;rfl)) (j:∀u,out (dA us i u) i=emp:=by(intro _;rfl))
 (hr:∀w,(bw a.eval o).run P w=a8 (.enter f args) w:=by(intro _;go_simp;try with_reducible rfl)) (hd:dst i=o.dst:=by rfl) (hlt:(match o.dst with|some d=>decide (d<a.tmps.size)|none=>au)=true:=by kernel_rfl) (hi:decide (i∈LE)=true:=by kernel_rfl) (hw:c4 o (cY ops a.tmps)=true:=by kernel_rfl) (ha:a.put o.dst (bU i (us i))=bz:=by((try simp only[Act.put,List.setIfInBounds_toArray,List.set_cons_zero,List.set_cons_succ]);rfl)):c9 P ops Q dst LE bU an FX bl out ins rd fin QP us i (o::rest) a:=
 df (λw Fr b=>(hc w Fr b).mono (λe w' ⟨k,g⟩=>⟨{},aG,by rw[j];rw[c]at b;exact(b.aI g).dT⟩)) h hr hd hlt hi hw ha
def DT {f:AL} {args:Array aP} {j:Option bW->Nat->aP} {bs:List Int} (hc:∀w (Fr:List bu),ai an FX w ((ins i).map (dm bl out us)++((rd i).map (dm bl out us)++Fr))->aD P f args w λe w'=>∃A c,e=aA (j A c)/\e3 w.heap.size w' A c bs/\ao w w') (h:c9 P ops Q dst LE bU an FX bl out ins rd fin QP us (i+1) rest bz) (k:ins i=[]:=by rfl) (n:∀u,bU i u=j u.A u.c:=by(intro _;rfl)) (l:∀u,out (dA us i u) i=cf u.A u.c bs:=by(intro _;rfl))
 (hr:∀w,(bw a.eval o).run P w=a8 (.enter f args) w:=by(intro _;go_simp;try with_reducible rfl)) (hd:dst i=o.dst:=by rfl) (hlt:(match o.dst with|some d=>decide (d<a.tmps.size)|none=>au)=true:=by kernel_rfl) (hi:decide (i∈LE)=true:=by kernel_rfl) (hw:c4 o (cY ops a.tmps)=true:=by kernel_rfl) (ha:a.put o.dst (bU i (us i))=bz:=by((try simp only[Act.put,List.setIfInBounds_toArray,List.set_cons_zero,List.set_cons_succ]);rfl)):c9 P ops Q dst LE bU an FX bl out ins rd fin QP us i (o::rest) a:=
 df (λw Fr b=>(hc w Fr b).mono (λe w' ⟨A,c,m,hb,g⟩=>⟨{A:=A,c:=c},aG,by rw[l];rw[k]at b;exact b.js g hb⟩)) h hr hd hlt hi hw ha
end
section
variable {P:ew} {o:cR} {a:bV} {w:aN}
def Row.blk{w A}{n c e sz:Nat}{xs}(h:Row 0 w A n c e sz xs)(j:0<n):∃g cur,A=ab ⟨g,0,af⟩/\aX w g cur e/\n<=c/\c<=dO/\cur.size=c*sz/\cur.toList.take (n*sz)=xs:=by
 rcases h.2 with⟨_,a⟩|⟨g,cap,cur,hv,_,i,h1,b,d,f⟩;·omega
 grind
def Iw{w}{g n c e sz:Nat}{cur}(d:aX w g cur e)(h1:n<=c)(a:c<=dO)(b:cur.size=c*sz):Row 0 w (ab ⟨g,0,af⟩) n c e sz (cur.toList.take (n*sz)):=
 ⟨by grind[Nat.mul_le_mul_right],.inr ⟨g,c,cur,aa,cQ _,d,h1,a,b,aa⟩⟩
def ai.Az{an w:aN}{FX:Nat->Prop}{l:List bu}{g e:Nat}{cur:Array aP}(h:ai an FX w l)(i n c sz:Nat)(xs:List aP)(hx:cur.toList.take (n*sz)=xs)(h1:n<=c)(a:c<=dO)(d:cur.size=c*sz)(hi:l[i]?=ab (ah g cur e):=by rfl):ai an FX w (l.set i (bp (ab ⟨g,0,af⟩) n c e sz xs)):=
 h.as i hi _ (λhb=>hx▸Iw hb h1 a d) (λb ⟨off,f,e⟩=>by injection e with e;injection e with bD b9;exact bD.symm)
def adX{x}{t e B off n c ty sz:Nat}{z cs}(f:o.op=.call {callee:=.builtin .clear,args:=#[x],argTypes:=#[t]})(hx:a.eval x=ad (ab ⟨B,off,af⟩) n c)(g:P.underlying t=ab (hU e))(hz:(P.info? e).bind (·.zero)=ab z)(hzs:z.cells.size=sz)(hz1:z.cells.all (·.oneCell')=true)(j:0<n)(hb:aX w B cs ty)(i:off+n*sz<=cs.size):
 ∃w' cs',(bw a.eval o).run P w=a8 (c8 (.tuple #[])) w'/\Turned w w' (ah B cs ty) (ah B cs' ty)/\cs'.size=cs.size/\cs'.toList.take off=cs.toList.take off:=by
 have hzl:((mT z.cells n).toList).length=n*sz:=by grind[mT]
 have hz2:(mT z.cells n).toList.all (·.oneCell')=true:=by grind[mT,Nat.mod_lt]
 obtain⟨w',hr,b,d,h⟩:=TJ (P:=P) B ty (mT z.cells n).toList w cs off 0 hb ae hz2;refine⟨w',lay cs (off+0) (mT z.cells n).toList,?_,vd d b,lay_size _ _ _,?_⟩;·obtain⟨m,rfl⟩:∃m,n=m+1:=⟨n -1,ae⟩;have hv:(zeroValue e).run P w=a8 z w:=TK hz w;unfold bw;simp[f,resolve,invoke,builtin,gl,hx,Builtin.clear_,gG g,hv,hr]
 .rw[Nat.add_zero]
  have key:∀(l:List aP) (cs:Array aP) (k:Nat),off<=k->(lay cs k l).toList.take off=cs.toList.take off:=by
   intro l;induction l with
   |nil=>intro cs k _;rfl
   |cons v l p=>grind[lay,List.take_set_of_le]
  exact key _ _ _ (Nat.le_refl _)
end
def ac1 {P:ew} {ops:Array cR} {rest:List cR} {Q:Exit->bV->aN->Prop} {o:cR} {a bz:bV} {w:aN} {v:aP} {an:aN} {FX:Nat->Prop} {l:List bu} {G ty:Nat} {cs:Array aP} {C:Array aP->Prop} (b:ai an FX w l) (i:Nat) (hr:∃w' cs',(bw a.eval o).run P w=a8 (c8 v) w'/\Turned w w' (ah G cs ty) (ah G cs' ty)/\C cs') (h:∀w' cs',C cs'->ai an FX w' (l.set i (ah G cs' ty))->cH P ops Q rest bz w') (hi:l[i]?=ab (ah G cs ty):=by rfl) (f:c4 o (cY ops a.tmps)=true:=by kernel_rfl)
 (ha:a.put o.dst v=bz:=by((try simp only[Act.put,List.setIfInBounds_toArray,List.set_cons_zero,List.set_cons_succ]);rfl)):cH P ops Q (o::rest) a w:=by
 obtain⟨w',cs',h1,c,d⟩:=hr;refine rb λK e=>?_;rw[if_pos f];unfold hC;rw[h1];show K _ _;rw[ha];exact e _ _ (h w' _ d (b.CC i hi c))
def Fi{P o}{a:bV}{w}{B k t:Nat}{cs cs' ty x y}v(b:o.op=y6 ty x y)(hx:a.eval x=ay (ab ⟨B,k,af⟩))(c:a.eval y=v)(hb:aX w B cs t)(hk:k+v.cells.size<=cs.size)(hi:(P.info? ty).map (·.size)=ab v.cells.size)(h1:v.cells.all (·.oneCell')=true)(hc:lay cs k v.cells.toList=cs'):
 ∃w',(bw a.eval o).run P w=a8 .skip w'/\Turned w w' (ah B cs t) (ah B cs' t):=by grind[MP,vd]
def avw{B c i sz}(h:i<c):fF (ab ⟨B,0,af⟩) c i sz=ab ⟨B,i*sz,af⟩:=by grind[fF,nD]
def aep {P o} {a:bV} {w} (t e sz:Nat) (x lo) (b:o.op=.slice t x (ab lo) af af) (f:P.underlying t=ab (hU e)) (d:(P.info? e).map (·.size)=ab sz) (B n c i m:Nat)
 (hx:a.eval x=ad (ab ⟨B,0,af⟩) n c) (ka:a.eval lo=J R (i:Int)) (hm:i+m=n) (h2:n<=c) (hi:i<c):(bw a.eval o).run P w=a8 (c8 (ad (ab ⟨B,i*sz,af⟩) m (c -i))) w:=by
 have h:=Au (w:=w) t e sz x lo b f d _ n c i m hx ka hm h2;rw[avw hi]at h;exact h
def Ik{w W A}{n c e sz:Nat}{xs}(h:Row 0 w A n c e sz xs)(g:ao w W):Row 0 W A n c e sz xs:=
 bu.only (bp A n c e sz xs) h (λ_ hb=>(Row.lt h hb).2) g (λ_ _ h=>h)
def ac2 {P:ew} {ops:Array cR} {rest:List cR} {Q:Exit->bV->aN->Prop} {o:cR} {a:bV} {w an:aN} {FX:Nat->Prop} {l:List bu} {s:bu} {bz:Option bW->Nat->bV} {b:Option bW->Nat->aP} {t:Option bW->Nat->bu} {l':Option bW->Nat->List bu} (d:ai an FX w l) (i:Nat) (hr:∃A c w',(bw a.eval o).run P w=a8 (c8 (b A c)) w'/\Turned w w' s (t A c)) (h:∀A c w',ai an FX w' (l' A c)->cH P ops Q rest (bz A c) w') (hi:l[i]?=ab s:=by rfl)
 (hl:∀A c,l.set i (t A c)=l' A c:=by(intro _ _;(try simp only[List.set_cons_zero,List.set_cons_succ]);rfl)) (hw:c4 o (cY ops a.tmps)=true:=by kernel_rfl) (ha:∀A c,a.put o.dst (b A c)=bz A c:=by(intro _ _;(try simp only[Act.put,List.setIfInBounds_toArray,List.set_cons_zero,List.set_cons_succ]);rfl)):cH P ops Q (o::rest) a w:=by
 obtain⟨A,c,w',h1,e⟩:=hr;refine rb λK f=>?_;rw[if_pos hw];unfold hC;rw[h1];show K _ _;rw[ha];exact f _ _ (h A c w' (hl A c▸d.CC i hi e))
end
section
open Go.RowKit Go.MapKept
section
variable {P:ew} {o:cR} {a:bV} {w:aN}
def Bm t(x y)f(d:o.op=nv .shr t x y f)(k g)v(n:Nat)(hx:a.eval x=J k v)(e:a.eval y=J g (n:Int))(c:n<=k.bits):
 (bw a.eval o).run P w=a8 (c8 (J k (v.fdiv (2^n)))) w:=by
 have h1:¬((n:Int)<0):=ae;have b:=Nat.min_eq_left c;unfold bw;simp[d,hx,e,za,binOp,Op.shift,h1,b]
def Bl t(x y)f(c:o.op=nv .quo t x y f)(p q z:Nat)(hx:a.eval x=J R (p:Int))(e:a.eval y=J R (q:Int))(h:0<q)(hz:p/q=z)(g:(z:Int)<=9223372036854775807):
 (bw a.eval o).run P w=a8 (c8 (J R (z:Int))) w:=by
 have d:R.wrap ((p:Int)/(q:Int))=(z:Int):=by grind[IntWalk.i64_in]
 have b:¬(q=0):=ae;unfold bw;simp[c,hx,e,za,binOp,Oj,d,b]
def Qs t(x y)f(c:o.op=nv .rem t x y f)(p q z:Nat)(hx:a.eval x=J R (p:Int))(e:a.eval y=J R (q:Int))(h:0<q)(hz:p%q=z)(g:(z:Int)<=9223372036854775807):
 (bw a.eval o).run P w=a8 (c8 (J R (z:Int))) w:=by
 have d:(p:Int).tmod (q:Int)=(z:Int):=aG;have b:¬(q=0):=ae;unfold bw;simp[c,hx,e,za,binOp,Oj,d,b]
end
theorem av8 v k:(mT #[v] k).toList=fu k v:=by
 unfold mT;simp;apply List.ext_getElem;·simp
 .grind
section
variable {P:ew} (w:aN)
def atD N (t eG ty e) i z h (d:P.underlying t=ab (hU e)) (f:P.underlying eG=ab (.int h)) (hi:P.info? e=ab i) (hz:i.zero=ab z) (o:z.cells=#[z]) (hsize:i.size=1)
 (g n) xs (hown:Row N w (ab ⟨g,0,af⟩) n n e 1 xs) k (h63:n+k<=dO) (hbytes:(n+k)*i.bytes<=140737488355328) (fl:N<=w.heap.size):
 ∃a c w',(oK #[t,eG] ty #[ad (ab ⟨g,0,af⟩) n n,J R (k:Int)]).run P w=a8 (ad a (n+k) c) w'/\Row N w' a (n+k) c e 1 (xs++fu k z)/\ao w w'/\(∀b,dV a b->dV (ab ⟨g,0,af⟩) b\/w.heap.size<=b):=by
 have hlen:xs.length=n:=by have:=hown.1;omega
 rcases Nat.eq_zero_or_pos k with hk|hk;·subst hk;refine⟨_,n,w,?_,aG,aq.refl _ w,λb hb=>.inl hb⟩;have hw0:R.wrap 0=0:=bj;simp[oK,gG d,gG f,sizeOf,typeInfo,hi,Builtin.lenOf,q8,storeCells,asInt,asIntOf,hw0]
 .have holds:=hown.cells (g:=g) aa
  have j:(q8 i.size n (ad (ab ⟨g,0,af⟩) n n)).run P w.drew=a8 xs.toArray w.drew:=by rw[hsize];exact run_firstCells_some _ 1 n _ n n xs ae holds
  have hrun:=Lib.run_append_grow_zeros (P:=P) w t eG ty e i z R h d f hi hz (ab ⟨g,0,af⟩) n n xs j k hk ae ae (by grind[dO]) aG (growslice_fits ae hbytes);have l:=grownCap_ge w (n+k) n e;have hcm:=grownCap_le_maxLen w _ n e h63;refine⟨_,_,_,hrun,⟨aG,.inr ⟨w.heap.size,_,_,aa,fl,heap_alloc_new w.drew _,l,hcm,?_,?_⟩⟩,ao.trans (aq.drew _) (aq.alloc _ _),λb ⟨_,_,m⟩=>aG⟩;·grind[size_zeroCells]
  .grind[av8]
end
def aj8 {P o} {a:bV} {w s x} {t eG e g n k:Nat} {xs} bytes f z (q:o.op=.call {callee:=.builtin .append,args:=#[s,x],argTypes:=#[t,eG]}) (r:a.eval s=ad (ab ⟨g,0,af⟩) n n) (hx:a.eval x=J R (k:Int)) (hown:Row 0 w (ab ⟨g,0,af⟩) n n e 1 xs) (hbytes:(n+k)*bytes<=140737488355328) (hb0:0<bytes) (u:P.underlying t=ab (hU e)) (v:P.underlying eG=ab (.int f))
 (kZ:(P.info? e).map (λi=>(i.zero,i.size,i.bytes))=ab (ab z,1,bytes)) (abv:z.cells=#[z]):
 ∃c d w',(bw a.eval o).run P w=a8 (c8 (ad c (n+k) d)) w'/\Turned w w' (bp (ab ⟨g,0,af⟩) n n e 1 xs) (bp c (n+k) d e 1 (xs++fu k z)):=by
 cases hq:P.info? e with
 |none=>grind
 |some i=>
  rw[hq]at kZ;simp only[Option.map_some,wC,Prod.mk.injEq]at kZ;obtain⟨bD,j,l⟩:=kZ;subst l;have hle:(n+k)<=(n+k)*i.bytes:=Nat.le_mul_of_pos_right _ hb0;obtain⟨c,d,w',hrun,h1,m,p⟩:=atD (P:=P) w 0 t eG o.type e i z f u v hq bD abv j g n xs hown k (by grind[dO]) hbytes (cQ _);refine⟨c,d,w',?_,m.mono (λ_ _ h=>h.elim),h1,λb hb=>⟨(Row.lt h1 hb).2,p b hb⟩⟩;unfold bw;simp only[q,resolve,invoke,builtin,gl,Sem.run_pure,Result.andThen_ok,List.map_toArray,List.map_cons,List.map_nil,r,hx,hrun]
end
end Go.Proofs.YtcmhplknoglbkaaGreat
