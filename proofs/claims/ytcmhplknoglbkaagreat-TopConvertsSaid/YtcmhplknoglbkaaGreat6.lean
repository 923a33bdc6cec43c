/- Part 6 of the proof of TopConvertsSaid. -/
import Derived.Deep.Cut
import Derived.Shelf.Bytes.SlEqualAll
import Derived.Shelf.Bytes.SlSmallAll
import Derived.Test.YtcmhplknoglbkaaGreatProg
import Derived.DeepKeys4
import Derived.Maps.OwnOps
import Derived.Test.YtcmhplknoglbkaaGreat0
import Derived.Test.YtcmhplknoglbkaaGreat2
import Derived.Test.YtcmhplknoglbkaaGreat4
import Derived.Test.YtcmhplknoglbkaaGreat5
set_option linter.all false
set_option maxRecDepth 100000
set_option maxHeartbeats 4000000
open Go.Proofs.Tryz
open BitVec renaming ofInt->nt
open Go renaming Act->bV,Oper->cR,Operand->iz,Program->ew,TypeId->gm,Value->aP,World->aN,asIntOf->y',binOp->wj,eqGuard->za,execOp->bw,run_underlying->gG,typeInfo->mV,wpList->cH,yielded->cY
open Go.Addr renaming add_mid->N'
open Go.Code renaming region->xB
open Go.Instr renaming indexAt->UM
open Go.IntKind renaming i64->R,u32->vV
open Go.IntWalk renaming i64_in->vW
open Go.Next renaming value->c8
open Go.Op renaming binOp->nv,indexAddr->C4,intArith->UQ
open Go.Proofs.Lays renaming nb116->aw2
open Go.Proofs.Tryz renaming prog->ax,underlying3->j2
open Go.Region renaming wanted->c4
open Go.Result renaming andThen_ok->ji,ok->a8
open Go.RowKit renaming Hid->aE
open Go.Sem renaming run_bind->gl,run_pure->jR
open Go.TypeDesc renaming array->we
open Go.Value renaming int->J,pointer->ay
open List renaming getElem?_append_left->tB,perm_append_comm->u7,perm_append_singleton->Gt
open Option renaming none->af,some->ab
namespace Go.Proofs.YtcmhplknoglbkaaGreat
section
open Go.RowKit Go.MapKept
abbrev cb(x:Int):Value:=J vV x
def j8(x:Int):Int:=vV.wrap x
def a32(x y:Int):Int:=vV.wrap (x+y)
def kt(x y:Int):Int:=vV.wrap ((nt 32 x^^^nt 32 y).toNat:Int)
def n32(x y:Int):Int:=vV.wrap ((nt 32 x&&& nt 32 y).toNat:Int)
def xd(x y:Int):Int:=vV.wrap ((nt 32 x|||BitVec.ofInt 32 y).toNat:Int)
def vC(x:Int)(n:Nat):Int:=vV.wrap (x*2^n)
def kb(x:Int)(n:Nat):Int:=x.fdiv (2^n)
def kO(x:Int)(n:Nat):Int:=xd (vC x n) (kb x (32 -n))
section
variable {U:Int->aP} {L:List Int} {tail:List aP}
def aY(U:Int->aP)(L:List Int)(tail:List aP):Array Value:=(L.map U++tail).toArray
def Kn{i}(h:i<L.length):(aY U L tail)[i]?=ab (U (L[i]?.getD 0)):=by grind[aY,tB]
def sx{k v n}(hn:L.length=n)(h:tail[k]?=ab v):(aY U L tail)[n+k]?=ab v:=by grind[aY]
def ajx{i}(h:i<L.length)v:(aY U L tail).setIfInBounds i (U v)=aY U (L.set i v) tail:=by grind[aY]
def ajy{k n}(hn:L.length=n)v:(aY U L tail).setIfInBounds (n+k) v=aY U L (tail.set k v):=by grind[aY]
theorem j7:(aY U L tail).size=L.length+tail.length:=by simp[aY]
def Qi(sM:∀x,(U x).oneCell'=true)(ht:∀v∈tail,v.oneCell'=true):(aY U L tail).all (·.oneCell')=true:=by rw[Array.all_eq_true_iff_forall_mem];intro v hv;have hv':=List.mem_toArray.1 hv;grind
end
section
variable {P:ew} {o:cR} {a:bV} {w:aN}
def lK t(x y)b4(ho:o.op=nv .add t x y b4)(p q z)(hx:a.eval x=J R p)(hy:a.eval y=J R q)(hz:p+q=z)(h1:-9223372036854775808<=z)(h2:z<=9223372036854775807):
 (bw a.eval o).run P w=a8 (c8 (J R z)) w:=by
 have hw:R.wrap (p+q)=z:=by grind[vW]
 unfold bw;simp[ho,hx,hy,za,wj,UQ,hw]
def pH t(x y)b4(ho:o.op=nv .sub t x y b4)(p q z)(hx:a.eval x=J R p)(hy:a.eval y=J R q)(hz:p -q=z)(h1:-9223372036854775808<=z)(h2:z<=9223372036854775807):
 (bw a.eval o).run P w=a8 (c8 (J R z)) w:=by
 have hw:R.wrap (p -q)=z:=by grind[vW]
 unfold bw;simp[ho,hx,hy,za,wj,UQ,hw]
def nE t(x y)b4(ho:o.op=nv .mul t x y b4)(p q z)(hx:a.eval x=J R p)(hy:a.eval y=J R q)(hz:p*q=z)(h1:-9223372036854775808<=z)(h2:z<=9223372036854775807):
 (bw a.eval o).run P w=a8 (c8 (J R z)) w:=by
 have hw:R.wrap (p*q)=z:=by grind[vW]
 unfold bw;simp[ho,hx,hy,za,wj,UQ,hw]
def ajG:∀n:Nat,n<128->R.wrap ((nt 64 (n:Int)&&& nt 64 15).toNat:Int)=((n%16:Nat):Int):=by decide+kernel
def DF t(x y)b4(ho:o.op=nv .and t x y b4)(n:Nat)(hx:a.eval x=J R (n:Int))(hy:a.eval y=J R 15)(hn:n<128)k(hk:n%16=k):
 (bw a.eval o).run P w=a8 (c8 (J R (k:Int))) w:=by
 have hw:=ajG n hn;rw[hk]at hw;unfold bw;simp only[ho,hx,hy,za,wj];show a8 (c8 (J R (R.wrap ((nt 64 (n:Int)&&& nt 64 15).toNat:Int)))) w=_;rw[hw]
def apP(t e sz m:Nat)(x k4)(ho:o.op=C4 t x k4)(ht:P.underlying t=ab (we m e))(hs:(P.info? e).map (·.size)=ab sz)(b off i k:Nat)(hx:a.eval x=ay (ab ⟨b,off,af⟩))(hi:a.eval k4=J R (i:Int))(h:i<m)(hk:off+i*sz=k):
 (bw a.eval o).run P w=a8 (c8 (ay (ab ⟨b,k,af⟩))) w:=by
 cases hq:P.info? e with
 |none=>grind
 |some s8=>
  have hsz:s8.size=sz:=aG;subst hk;have nI:(⟨b,off,_⟩:Addr).add (i*sz)=⟨b,_,_⟩:=N' _ _ _;unfold bw;simp[ho,hx,hi,UM,Instr.sureAddr,y',gl,gG ht,sizeOf,mV,hq,hsz,nI];intro h2;omega
def SG (t e m:Nat) (x k4) (ho:o.op=.index t x k4) (ht:P.underlying t=ab (we m e)) (he:(P.underlying e).map (λ|.struct _|.array _ _=>true|_=>false)=ab false) (hs:(P.info? e).map (·.size)=ab 1)
 U L (i:Nat) (hx:a.eval x=.agg (aY U L [])) (hi:a.eval k4=J R (i:Int)) (h:i<m) (cj:L.length=m):
 (bw a.eval o).run P w=a8 (c8 (U (L[i]?.getD 0))) w:=by
 cases hq:P.info? e with
 |none=>grind
 |some s8=>
  have hsz:s8.size=1:=aG;cases hd:P.underlying e with
  |none=>grind
  |some d=>
   rw[hd]at he;have hg:(aY U L [])[i]?=ab _:=Kn ae;have hb:¬(m:Int)<=(i:Int):=ae;have h1:(i:Int)<(m:Int):=ae;unfold bw;simp only[ho,hx,hi,Instr.index,y',gl,gG ht,jR,ji];rw[if_pos ⟨ae,h1⟩];simp only[sizeOf,mV,gl,jR,ji,part,isAgg,gG hd];cases d<;>simp_all
def aqp (ty e) n x (ho:o.op=.load ty x) B (hx:a.eval x=ay (ab ⟨B,0,af⟩)) {t U L tail} (hg:aX w B (aY U L tail) t) (cj:L.length=n)
 (hu:P.underlying ty=ab (we n e)) (hi:(P.info? ty).map (·.size)=ab n):(bw a.eval o).run P w=a8 (c8 (.agg (aY U L []))) w:=by
 have h:=e7 (P:=P) (o:=o) (a:=a) (w:=w) ty x ho B 0 hx _ (d:=_) (λj v hv=>by rw[Nat.zero_add];refine aX.cell hg j ?_;simp only[aY,List.getElem?_toArray];rw[tB (List.getElem?_eq_some_iff.1 hv).1];exact hv) hu aa (by rw[hi];simp[cj]);rw[h];simp[aY]
variable {K:bV->aN->Prop} {Q:Exit->bV->aN->Prop}
end
end
section
open Go.RowKit Go.MapKept
def nth:List bu->Nat->(Nat->bu)->bu
 |[],n,f=>f n
 |t::_,0,_=>t
 |_::l,n+1,f=>nth l n f
def acy t l f:nth (t::l) 0 f=t:=rfl
theorem S6 t l n f:nth (t::l) (n+1) f=nth l n f:=rfl
def acA n f:nth [] n f=f n:=rfl
def uA(f:Nat->bu):List Nat->List bu
 |[]=>[]
 |n::l=>f n::uA f l
def ad9 f:uA f []=[]:=rfl
theorem TM f n l:uA f (n::l)=f n::uA f l:=rfl
def ard bl out us:∀n,dm bl out us n=nth bl n (out us):=by
 intro n;unfold dm
 have key:∀(l) n f,(match l[n]? with|some t=>t|none=>f (n -l.length))=nth l n f:=by
  intro l;induction l with
  |nil=>intro n f;rfl
  |cons t l bY=>
   intro n f;cases n with
   |zero=>rfl
   |succ n=>grind[S6]
 exact key bl n _
theorem at4 bl out us fin:fin.map (dm bl out us)=uA (λn=>nth bl n (out us)) fin:=by
 induction fin with
 |nil=>rfl
 |cons n l bY=>rw[List.map_cons,bY,ard];rfl
section
variable {P:ew} {ops:Array cR} {Q:Exit->bV->aN->Prop} {an:aN} {FX:Nat->Prop} {dst:Nat->Option Tmp} {LE:List Nat} {bU:Nat->e4->aP} {bl l':List bu} {out:(Nat->e4)->Nat->bu} {ins rd:Nat->List Nat} {fin:List Nat} {QP:List PanicEntry->aN->Prop} {us:Nat->e4} {i:Nat} {a:bV}
def bS(h:∀w',ai an FX w' l'->Q .normal a w')(hl:uA (λn=>nth bl n (out us)) fin=l':=by(simp only[ad9,TM,acy,S6,acA];rfl)):c9 P ops Q dst LE bU an FX bl out ins rd fin QP us i [] a:=
 o9 (λw' I=>h w' (by grind[at4]))
end
section
variable {an w:aN} {FX:Nat->Prop} {l l' L r:List bu} {a b c d:bu}
def Mk(l:List bu)(n:Nat):bu:=nth l n λ_=>emp
theorem acz:∀{l} {n},n<l.length->l[n]?=ab (Mk l n)
 |_::_,0,_=>aa
 |_::l,n+1,h=>by rw[List.getElem?_cons_succ];exact acz (l:=l) (by simpa using h)
def asj(h:ai an FX w l)idx(h1:(idx.all λn=>decide (n<l.length))=true)(h2:decide idx.Nodup=true):ai an FX w (uA (Mk l) idx):=by
 refine h.pick _ ?_ h2;clear h2;induction idx with
 |nil=>rfl
 |cons n idx bY=>grind[TM,acz]
def ai.pk(h:ai an FX w l)(idx:List Nat)(hl:uA (Mk l) idx=L:=by(simp only[ad9,TM,Mk,acy,S6,acA];rfl))(h1:(idx.all λn=>decide (n<l.length))=true:=by kernel_rfl)(h2:decide idx.Nodup=true:=by kernel_rfl):ai an FX w L:=hl▸asj h idx h1 h2
def ai.MY(l l')(h:ai an FX w (l++l')):ai an FX w (l++[Go.Proofs.YtcmhplknoglbkaaGreat.bQ l']):=by have h1:=h.perm u7;exact h1.bQ.perm (by simpa using(Gt (Go.Proofs.YtcmhplknoglbkaaGreat.bQ l') l).symm)
def ai.M5(l l')(h:ai an FX w (l++[Go.Proofs.YtcmhplknoglbkaaGreat.bQ l'])):ai an FX w (l++l'):=by have h1:=h.perm (Gt _ _);exact h1.kq.perm u7
def ai.t1(h:ai an FX w (a::r)):ai an FX w [a,Go.Proofs.YtcmhplknoglbkaaGreat.bQ r]:=h.MY [a] r
def ai.t2(h:ai an FX w (a::b::r)):ai an FX w [a,b,Go.Proofs.YtcmhplknoglbkaaGreat.bQ r]:=h.MY [a,b] r
def ai.t3(h:ai an FX w (a::b::c::r)):ai an FX w [a,b,c,Go.Proofs.YtcmhplknoglbkaaGreat.bQ r]:=h.MY [a,b,c] r
def ai.t4(h:ai an FX w (a::b::c::d::r)):ai an FX w [a,b,c,d,Go.Proofs.YtcmhplknoglbkaaGreat.bQ r]:=h.MY [a,b,c,d] r
def ai.dc(h:ai an FX w [a,Go.Proofs.YtcmhplknoglbkaaGreat.bQ r]):ai an FX w (a::r):=h.M5 [a] r
def ai.bo(h:ai an FX w [a,b,Go.Proofs.YtcmhplknoglbkaaGreat.bQ r]):ai an FX w (a::b::r):=h.M5 [a,b] r
def ai.lg(h:ai an FX w [a,b,c,Go.Proofs.YtcmhplknoglbkaaGreat.bQ r]):ai an FX w (a::b::c::r):=h.M5 [a,b,c] r
def ai.oH(h:ai an FX w [a,b,c,d,Go.Proofs.YtcmhplknoglbkaaGreat.bQ r]):ai an FX w (a::b::c::d::r):=h.M5 [a,b,c,d] r
def ai.lE(h:ai an FX w (Go.Proofs.YtcmhplknoglbkaaGreat.bQ l::l'))(hl:l++l'=L:=by(simp only[List.cons_append,List.nil_append];rfl)):ai an FX w L:=hl▸h.kq
end
section
variable {P:ew} {ops:Array cR} {rest:List cR} {Q:Exit->bV->aN->Prop} {o:cR} {a bz:bV} {w:aN}
def pk (v:aP) (h:cH P ops Q rest bz w) (hr:(bw a.eval o).run P w=a8 (c8 v) w:=by(show _=_;kernel_rfl)) (hw:c4 o (cY ops a.tmps)=true:=by kernel_rfl)
 (ha:a.put o.dst v=bz:=by((try simp only[Act.put,List.setIfInBounds_toArray,List.set_cons_zero,List.set_cons_succ]);rfl)):cH P ops Q (o::rest) a w:=ag h hw hr ha
def cd (v:aP) (h:cH P ops Q rest bz w) (hr:(bw a.eval o).run P w=a8 (c8 v) w:=by(go_simp;try omega)) (hw:c4 o (cY ops a.tmps)=true:=by kernel_rfl)
 (ha:a.put o.dst v=bz:=by((try simp only[Act.put,List.setIfInBounds_toArray,List.set_cons_zero,List.set_cons_succ]);rfl)):cH P ops Q (o::rest) a w:=ag h hw hr ha
def dt {p:Prop} (H:aE p) (v:aP) (h:cH P ops Q rest bz w) (hr:p->(bw a.eval o).run P w=a8 (c8 v) w:=by(intro h;go_simp;try simp[h])) (hw:c4 o (cY ops a.tmps)=true:=by kernel_rfl)
 (ha:a.put o.dst v=bz:=by((try simp only[Act.put,List.setIfInBounds_toArray,List.set_cons_zero,List.set_cons_succ]);rfl)):cH P ops Q (o::rest) a w:=ag h hw (hr H.out) ha
def pad (p q z:Int) (h:cH P ops Q rest bz w) {t b4:gm} {x y:iz} (ho:o.op=nv .add t x y b4:=by rfl) (hx:a.eval x=J R p:=by rfl) (hy:a.eval y=J R q:=by rfl) (hz:p+q=z:=by omega) (h1:-9223372036854775808<=z:=by omega) (h2:z<=9223372036854775807:=by omega) (hw:c4 o (cY ops a.tmps)=true:=by kernel_rfl)
 (ha:a.put o.dst (J R z)=bz:=by((try simp only[Act.put,List.setIfInBounds_toArray,List.set_cons_zero,List.set_cons_succ]);rfl)):cH P ops Q (o::rest) a w:=ag h hw (lK t x y b4 ho p q z hx hy hz h1 h2) ha
def mN (p q z:Int) (h:cH P ops Q rest bz w) {t b4:gm} {x y:iz} (ho:o.op=nv .sub t x y b4:=by rfl) (hx:a.eval x=J R p:=by rfl) (hy:a.eval y=J R q:=by rfl) (hz:p -q=z:=by omega) (h1:-9223372036854775808<=z:=by omega) (h2:z<=9223372036854775807:=by omega) (hw:c4 o (cY ops a.tmps)=true:=by kernel_rfl)
 (ha:a.put o.dst (J R z)=bz:=by((try simp only[Act.put,List.setIfInBounds_toArray,List.set_cons_zero,List.set_cons_succ]);rfl)):cH P ops Q (o::rest) a w:=ag h hw (pH t x y b4 ho p q z hx hy hz h1 h2) ha
def iL {an:aN} {B k t:Nat} {cs:Array aP} {v:aP} {ty:gm} {x:iz} (hb:aX an B cs t) (g:aq (λ_=>False) an w) (h:cH P ops Q rest bz w) (ho:o.op=.load ty x:=by rfl) (hx:a.eval x=ay (ab ⟨B,k,af⟩):=by rfl)
 (hv:cs[k]?=ab v:=by((try simp only[List.getElem?_toArray,List.getElem?_cons_succ,List.getElem?_cons_zero])<;>rfl)) (hu:(P.underlying ty).map (λd=>d.isRow)=ab false:=by kernel_rfl) (hw:c4 o (cY ops a.tmps)=true:=by kernel_rfl)
 (ha:a.put o.dst v=bz:=by((try simp only[Act.put,List.setIfInBounds_toArray,List.set_cons_zero,List.set_cons_succ]);rfl)):cH P ops Q (o::rest) a w:=ag h hw (fz ho hx (aq.heap g hb (λh=>h)) hv hu) ha
end
section
variable {P:ew} {ops:Array cR} {rest:List cR} {Q:Exit->bV->aN->Prop} {o:cR} {a bz:bV} {an:aN} {FX:Nat->Prop} {dst:Nat->Option Tmp} {LE:List Nat} {bU:Nat->e4->aP} {bl:List bu} {out:(Nat->e4)->Nat->bu} {ins rd:Nat->List Nat} {fin:List Nat} {QP:List PanicEntry->aN->Prop} {us:Nat->e4} {i:Nat}
def gC (v:aP) (h:c9 P ops Q dst LE bU an FX bl out ins rd fin QP us (i+1) rest bz) (hr:∀w,(bw a.eval o).run P w=a8 (c8 v) w:=by(intro _;show _=_;kernel_rfl)) (hi:decide (i∈LE)=false:=by kernel_rfl) (hw:c4 o (cY ops a.tmps)=true:=by kernel_rfl)
 (ha:a.put o.dst v=bz:=by((try simp only[Act.put,List.setIfInBounds_toArray,List.set_cons_zero,List.set_cons_succ]);rfl)):c9 P ops Q dst LE bU an FX bl out ins rd fin QP us i (o::rest) a:=aL h hi hw hr ha
end
def Y{P Q:Prop}(k:Q)(h:aE Q->P):P:=h (hid k)
def XJ{P n ops d Q a w}(h:(xB n ops d).wp P Q a w):(xB n ops d).wp P Q a w:=h
def aF{P:Prop}{cn:(bV->aN->Prop)->Prop}{fa:∀x,cn x->(bV->aN->Prop)->Prop}{Q:∀x y bo,fa x y bo->Prop}(k:∀{x} {y:cn x} {bo} {br:fa x y bo},Q x y bo br)(h:aE (∀x y bo br,Q x y bo br)->P:=by(intro k;(try refine wpList_nil ?_);(repeat((fail_if_success (with_reducible refine XJ ?_));(first|go_values|go_skip|go_guarded|go_step|go_upon|go_back)));(refine wp_region_lit ?_);(first|(rename_i dL h1;(have dI:Act->World->Prop:=λ_ _=>True);(have t1:True:=trivial);with_reducible exact k.out dI t1 dL h1)|(rename_i dL h1 hX h2;with_reducible exact k.out dL h1 hX h2)|((have dI:Act->World->Prop:=λ_ _=>True);(have t1:True:=trivial);(have fq:Act->World->Prop:=λ_ _=>True);(have t2:True:=trivial);exact k.out dI t1 fq t2)))):P:=by grind[hid]
def dh{P:Prop}{cn:(bV->aN->Prop)->Prop}{fa:∀x,cn x->(bV->aN->Prop)->Prop}{Q:∀x y bo,fa x y bo->Prop}(k:∀{x} {y:cn x} {bo} {br:fa x y bo},Q x y bo br)(h:aE (∀x y bo br,Q x y bo br)->P:=by(intro k;(try refine wpList_nil ?_);(repeat((fail_if_success (with_reducible refine XJ ?_));(first|go_values|go_skip|go_guarded|go_step|go_upon|go_back)));(first|(rename_i dL h1;(have dI:Act->World->Prop:=λ_ _=>True);(have t1:True:=trivial);with_reducible exact k.out dI t1 dL h1)|(rename_i dL h1 hX h2;with_reducible exact k.out dL h1 hX h2)|((have dI:Act->World->Prop:=λ_ _=>True);(have t1:True:=trivial);(have fq:Act->World->Prop:=λ_ _=>True);(have t2:True:=trivial);exact k.out dI t1 fq t2)))):P:=by grind[hid]
def v2{P Q:Prop}(k:Q)(h:aE Q->P:=by(intro k;(iterate 2 refine ag ?_);exact k.out)):P:=h (hid k)
def v3{P Q:Prop}(k:Q)(h:aE Q->P:=by(intro k;(iterate 3 refine ag ?_);exact k.out)):P:=h (hid k)
def v4{P Q:Prop}(k:Q)(h:aE Q->P:=by(intro k;(iterate 4 refine ag ?_);exact k.out)):P:=h (hid k)
def v5{P Q:Prop}(k:Q)(h:aE Q->P:=by(intro k;(iterate 5 refine ag ?_);exact k.out)):P:=h (hid k)
def v6{P Q:Prop}(k:Q)(h:aE Q->P:=by(intro k;(iterate 6 refine ag ?_);exact k.out)):P:=h (hid k)
def xl{P Q:Prop}(k:Q)(h:aE Q->P:=by(intro k;(iterate 8 refine ag ?_);exact k.out)):P:=h (hid k)
def v9{P Q:Prop}(k:Q)(h:aE Q->P:=by(intro k;(iterate 9 refine ag ?_);exact k.out)):P:=h (hid k)
def br{P Q:Prop}(k:Q)(h:aE Q->P:=by(intro k;(iterate 2 refine aL ?_);exact k.out)):P:=h (hid k)
def c7{P Q:Prop}(k:Q)(h:aE Q->P:=by(intro k;(iterate 3 refine aL ?_);exact k.out)):P:=h (hid k)
def ix{P Q:Prop}(k:Q)(h:aE Q->P:=by(intro k;(iterate 4 refine aL ?_);exact k.out)):P:=h (hid k)
def oI{P Q:Prop}(k:Q)(h:aE Q->P:=by(intro k;(iterate 5 refine aL ?_);exact k.out)):P:=h (hid k)
def NH{P Q:Prop}(k:Q)(h:aE Q->P:=by(intro k;(iterate 6 refine aL ?_);exact k.out)):P:=h (hid k)
def NI{P Q:Prop}(k:Q)(h:aE Q->P:=by(intro k;(iterate 7 refine aL ?_);exact k.out)):P:=h (hid k)
def CM{P Q:Prop}(k:Q)(h:aE Q->P:=by(intro k;(iterate 8 refine aL ?_);exact k.out)):P:=h (hid k)
def NJ{P Q:Prop}(k:Q)(h:aE Q->P:=by(intro k;(iterate 9 refine aL ?_);exact k.out)):P:=h (hid k)
def dT{P Q:Prop}(k:Q)(h:aE Q->P:=by(intro k;(try refine wpList_nil ?_);(go_wp2_with fail);(first|go_end0|refine bodyPost_ret (results_none rfl _ _ _) rfl ?_);exact k.out)):P:=h (hid k)
def bD{P Q:Prop}(k:Q)(h:aE Q->P:=by(intro k;(try refine wpList_nil ?_);(go_wp2_with fail);(go_ret);exact k.out)):P:=h (hid k)
def b9{P Q:Prop}(k:Q)(h:aE Q->P:=by(intro k;(try refine wpList_nil ?_);(go_wp2_with fail);(go_ret2);exact k.out)):P:=h (hid k)
def KU{P Q:Prop}(k:Q)(h:aE Q->P:=by(intro k;(try refine wpList_nil ?_);(go_wp2_with fail);exact k.out)):P:=h (hid k)
end
open Go.RowKit Go.MapKept
def cK{P:Prop}{cn:(Act->World->Prop)->Prop}{fa:∀x,cn x->(Act->World->Prop)->Prop}{Q:∀x y bo,fa x y bo->Prop}(k:∀{x} {y:cn x} {bo} {br:fa x y bo},Q x y bo br)(h:Hid (∀x y bo br,Q x y bo br)->P:=by (intro k;refine ag ?_;refine aF ?_;refine ag ?_;(first|(rename_i dL h1;(have dI:Act->World->Prop:=λ_ _=>True);(have t1:True:=trivial);with_reducible exact k.out dI t1 dL h1)|(rename_i dL h1 hX h2;with_reducible exact k.out dL h1 hX h2)|((have dI:Act->World->Prop:=λ_ _=>True);(have t1:True:=trivial);(have fq:Act->World->Prop:=λ_ _=>True);(have t2:True:=trivial);exact k.out dI t1 fq t2)))):P:=h (hid λ_ _ _ _=>k)
def b6{P:Prop}{cn:(Act->World->Prop)->Prop}{fa:∀x,cn x->(Act->World->Prop)->Prop}{Q:∀x y bo,fa x y bo->Prop}(k:∀{x} {y:cn x} {bo} {br:fa x y bo},Q x y bo br)(h:Hid (∀x y bo br,Q x y bo br)->P:=by (intro k;refine aF ?_;refine ag ?_;(first|(rename_i dL h1;(have dI:Act->World->Prop:=λ_ _=>True);(have t1:True:=trivial);with_reducible exact k.out dI t1 dL h1)|(rename_i dL h1 hX h2;with_reducible exact k.out dL h1 hX h2)|((have dI:Act->World->Prop:=λ_ _=>True);(have t1:True:=trivial);(have fq:Act->World->Prop:=λ_ _=>True);(have t2:True:=trivial);exact k.out dI t1 fq t2)))):P:=h (hid λ_ _ _ _=>k)
def bR{P Q:Prop}(k:Q)(h:Hid Q->P:=by (intro k;refine ag ?_;refine wpList_nil ?_;exact k.out)):P:=h (hid k)
def jb{P:Prop}{cn:(Act->World->Prop)->Prop}{fa:∀x,cn x->(Act->World->Prop)->Prop}{Q:∀x y bo,fa x y bo->Prop}(k:∀{x} {y:cn x} {bo} {br:fa x y bo},Q x y bo br)(h:Hid (∀x y bo br,Q x y bo br)->P:=by (intro k;refine aF ?_;refine v2 ?_;(first|(rename_i dL h1;(have dI:Act->World->Prop:=λ_ _=>True);(have t1:True:=trivial);with_reducible exact k.out dI t1 dL h1)|(rename_i dL h1 hX h2;with_reducible exact k.out dL h1 hX h2)|((have dI:Act->World->Prop:=λ_ _=>True);(have t1:True:=trivial);(have fq:Act->World->Prop:=λ_ _=>True);(have t2:True:=trivial);exact k.out dI t1 fq t2)))):P:=h (hid λ_ _ _ _=>k)
def dR{P:Prop}{cn:(Act->World->Prop)->Prop}{fa:∀x,cn x->(Act->World->Prop)->Prop}{Q:∀x y bo,fa x y bo->Prop}(k:∀{x} {y:cn x} {bo} {br:fa x y bo},Q x y bo br)(h:Hid (∀x y bo br,Q x y bo br)->P:=by (intro k;refine ag ?_;refine aF ?_;(first|(rename_i dL h1;(have dI:Act->World->Prop:=λ_ _=>True);(have t1:True:=trivial);with_reducible exact k.out dI t1 dL h1)|(rename_i dL h1 hX h2;with_reducible exact k.out dL h1 hX h2)|((have dI:Act->World->Prop:=λ_ _=>True);(have t1:True:=trivial);(have fq:Act->World->Prop:=λ_ _=>True);(have t2:True:=trivial);exact k.out dI t1 fq t2)))):P:=h (hid λ_ _ _ _=>k)
def jt{P:Prop}{cn:(Act->World->Prop)->Prop}{fa:∀x,cn x->(Act->World->Prop)->Prop}{Q:∀x y bo,fa x y bo->Prop}(k:∀{x} {y:cn x} {bo} {br:fa x y bo},Q x y bo br)(h:Hid (∀x y bo br,Q x y bo br)->P:=by (intro k;refine aF ?_;refine v3 ?_;(first|(rename_i dL h1;(have dI:Act->World->Prop:=λ_ _=>True);(have t1:True:=trivial);with_reducible exact k.out dI t1 dL h1)|(rename_i dL h1 hX h2;with_reducible exact k.out dL h1 hX h2)|((have dI:Act->World->Prop:=λ_ _=>True);(have t1:True:=trivial);(have fq:Act->World->Prop:=λ_ _=>True);(have t2:True:=trivial);exact k.out dI t1 fq t2)))):P:=h (hid λ_ _ _ _=>k)
def ih{P:Prop}{cn:(Act->World->Prop)->Prop}{fa:∀x,cn x->(Act->World->Prop)->Prop}{Q:∀x y bo,fa x y bo->Prop}(k:∀{x} {y:cn x} {bo} {br:fa x y bo},Q x y bo br)(h:Hid (∀x y bo br,Q x y bo br)->P:=by (intro k;refine ag ?_;refine dh ?_;(first|(rename_i dL h1;(have dI:Act->World->Prop:=λ_ _=>True);(have t1:True:=trivial);with_reducible exact k.out dI t1 dL h1)|(rename_i dL h1 hX h2;with_reducible exact k.out dL h1 hX h2)|((have dI:Act->World->Prop:=λ_ _=>True);(have t1:True:=trivial);(have fq:Act->World->Prop:=λ_ _=>True);(have t2:True:=trivial);exact k.out dI t1 fq t2)))):P:=h (hid λ_ _ _ _=>k)
def IZ{P Q:Prop}(k:Q)(h:Hid Q->P:=by (intro k;refine ag ?_;refine bD ?_;exact k.out)):P:=h (hid k)
def ku{P:Prop}{cn:(Act->World->Prop)->Prop}{fa:∀x,cn x->(Act->World->Prop)->Prop}{Q:∀x y bo,fa x y bo->Prop}(k:∀{x} {y:cn x} {bo} {br:fa x y bo},Q x y bo br)(h:Hid (∀x y bo br,Q x y bo br)->P:=by (intro k;refine ag ?_;refine aF ?_;refine v2 ?_;(first|(rename_i dL h1;(have dI:Act->World->Prop:=λ_ _=>True);(have t1:True:=trivial);with_reducible exact k.out dI t1 dL h1)|(rename_i dL h1 hX h2;with_reducible exact k.out dL h1 hX h2)|((have dI:Act->World->Prop:=λ_ _=>True);(have t1:True:=trivial);(have fq:Act->World->Prop:=λ_ _=>True);(have t2:True:=trivial);exact k.out dI t1 fq t2)))):P:=h (hid λ_ _ _ _=>k)
def av9{P:Prop}{cn:(Act->World->Prop)->Prop}{fa:∀x,cn x->(Act->World->Prop)->Prop}{Q:∀x y bo,fa x y bo->Prop}(k:∀{x} {y:cn x} {bo} {br:fa x y bo},Q x y bo br)(h:Hid (∀x y bo br,Q x y bo br)->P:=by (intro k;refine aF ?_;refine v2 ?_;refine bD ?_;(first|(rename_i dL h1;(have dI:Act->World->Prop:=λ_ _=>True);(have t1:True:=trivial);with_reducible exact k.out dI t1 dL h1)|(rename_i dL h1 hX h2;with_reducible exact k.out dL h1 hX h2)|((have dI:Act->World->Prop:=λ_ _=>True);(have t1:True:=trivial);(have fq:Act->World->Prop:=λ_ _=>True);(have t2:True:=trivial);exact k.out dI t1 fq t2)))):P:=h (hid λ_ _ _ _=>k)
def dQ{P Q:Prop}(k:Q)(h:Hid Q->P:=by (intro k;refine v2 ?_;refine wpList_nil ?_;exact k.out)):P:=h (hid k)
def awa{P:Prop}{cn:(Act->World->Prop)->Prop}{fa:∀x,cn x->(Act->World->Prop)->Prop}{Q:∀x y bo,fa x y bo->Prop}(k:∀{x} {y:cn x} {bo} {br:fa x y bo},Q x y bo br)(h:Hid (∀x y bo br,Q x y bo br)->P:=by (intro k;refine ag ?_;refine aF ?_;refine ag ?_;refine wpList_nil ?_;(first|(rename_i dL h1;(have dI:Act->World->Prop:=λ_ _=>True);(have t1:True:=trivial);with_reducible exact k.out dI t1 dL h1)|(rename_i dL h1 hX h2;with_reducible exact k.out dL h1 hX h2)|((have dI:Act->World->Prop:=λ_ _=>True);(have t1:True:=trivial);(have fq:Act->World->Prop:=λ_ _=>True);(have t2:True:=trivial);exact k.out dI t1 fq t2)))):P:=h (hid λ_ _ _ _=>k)
def oJ{P:Prop}{cn:(Act->World->Prop)->Prop}{fa:∀x,cn x->(Act->World->Prop)->Prop}{Q:∀x y bo,fa x y bo->Prop}(k:∀{x} {y:cn x} {bo} {br:fa x y bo},Q x y bo br)(h:Hid (∀x y bo br,Q x y bo br)->P:=by (intro k;refine aF ?_;refine v4 ?_;(first|(rename_i dL h1;(have dI:Act->World->Prop:=λ_ _=>True);(have t1:True:=trivial);with_reducible exact k.out dI t1 dL h1)|(rename_i dL h1 hX h2;with_reducible exact k.out dL h1 hX h2)|((have dI:Act->World->Prop:=λ_ _=>True);(have t1:True:=trivial);(have fq:Act->World->Prop:=λ_ _=>True);(have t2:True:=trivial);exact k.out dI t1 fq t2)))):P:=h (hid λ_ _ _ _=>k)
def CN{P:Prop}{cn:(Act->World->Prop)->Prop}{fa:∀x,cn x->(Act->World->Prop)->Prop}{Q:∀x y bo,fa x y bo->Prop}(k:∀{x} {y:cn x} {bo} {br:fa x y bo},Q x y bo br)(h:Hid (∀x y bo br,Q x y bo br)->P:=by (intro k;refine v2 ?_;refine aF ?_;refine ag ?_;(first|(rename_i dL h1;(have dI:Act->World->Prop:=λ_ _=>True);(have t1:True:=trivial);with_reducible exact k.out dI t1 dL h1)|(rename_i dL h1 hX h2;with_reducible exact k.out dL h1 hX h2)|((have dI:Act->World->Prop:=λ_ _=>True);(have t1:True:=trivial);(have fq:Act->World->Prop:=λ_ _=>True);(have t2:True:=trivial);exact k.out dI t1 fq t2)))):P:=h (hid λ_ _ _ _=>k)
def afn{P:Prop}{cn:(Act->World->Prop)->Prop}{fa:∀x,cn x->(Act->World->Prop)->Prop}{Q:∀x y bo,fa x y bo->Prop}(k:∀{x} {y:cn x} {bo} {br:fa x y bo},Q x y bo br)(h:Hid (∀x y bo br,Q x y bo br)->P:=by (intro k;refine aF ?_;refine ag ?_;refine aF ?_;(first|(rename_i dL h1;(have dI:Act->World->Prop:=λ_ _=>True);(have t1:True:=trivial);with_reducible exact k.out dI t1 dL h1)|(rename_i dL h1 hX h2;with_reducible exact k.out dL h1 hX h2)|((have dI:Act->World->Prop:=λ_ _=>True);(have t1:True:=trivial);(have fq:Act->World->Prop:=λ_ _=>True);(have t2:True:=trivial);exact k.out dI t1 fq t2)))):P:=h (hid λ_ _ _ _=>k)
def Fu{P Q:Prop}(k:Q)(h:Hid Q->P:=by (intro k;refine bb ?_;refine ag ?_;refine wpList_nil ?_;exact k.out)):P:=h (hid k)
def Uj{P:Prop}{cn:(Act->World->Prop)->Prop}{fa:∀x,cn x->(Act->World->Prop)->Prop}{Q:∀x y bo,fa x y bo->Prop}(k:∀{x} {y:cn x} {bo} {br:fa x y bo},Q x y bo br)(h:Hid (∀x y bo br,Q x y bo br)->P:=by (intro k;refine aF ?_;refine ag ?_;refine aF ?_;refine ag ?_;(first|(rename_i dL h1;(have dI:Act->World->Prop:=λ_ _=>True);(have t1:True:=trivial);with_reducible exact k.out dI t1 dL h1)|(rename_i dL h1 hX h2;with_reducible exact k.out dL h1 hX h2)|((have dI:Act->World->Prop:=λ_ _=>True);(have t1:True:=trivial);(have fq:Act->World->Prop:=λ_ _=>True);(have t2:True:=trivial);exact k.out dI t1 fq t2)))):P:=h (hid λ_ _ _ _=>k)
def AE{P Q:Prop}(k:Q)(h:Hid Q->P:=by (intro k;refine bb ?_;refine wpList_nil ?_;exact k.out)):P:=h (hid k)
def Uk{P:Prop}{cn:(Act->World->Prop)->Prop}{fa:∀x,cn x->(Act->World->Prop)->Prop}{Q:∀x y bo,fa x y bo->Prop}(k:∀{x} {y:cn x} {bo} {br:fa x y bo},Q x y bo br)(h:Hid (∀x y bo br,Q x y bo br)->P:=by (intro k;refine ag ?_;refine aF ?_;refine v3 ?_;(first|(rename_i dL h1;(have dI:Act->World->Prop:=λ_ _=>True);(have t1:True:=trivial);with_reducible exact k.out dI t1 dL h1)|(rename_i dL h1 hX h2;with_reducible exact k.out dL h1 hX h2)|((have dI:Act->World->Prop:=λ_ _=>True);(have t1:True:=trivial);(have fq:Act->World->Prop:=λ_ _=>True);(have t2:True:=trivial);exact k.out dI t1 fq t2)))):P:=h (hid λ_ _ _ _=>k)
def Ul{P:Prop}{cn:(Act->World->Prop)->Prop}{fa:∀x,cn x->(Act->World->Prop)->Prop}{Q:∀x y bo,fa x y bo->Prop}(k:∀{x} {y:cn x} {bo} {br:fa x y bo},Q x y bo br)(h:Hid (∀x y bo br,Q x y bo br)->P:=by (intro k;refine bb ?_;refine v5 ?_;refine aF ?_;refine ag ?_;(first|(rename_i dL h1;(have dI:Act->World->Prop:=λ_ _=>True);(have t1:True:=trivial);with_reducible exact k.out dI t1 dL h1)|(rename_i dL h1 hX h2;with_reducible exact k.out dL h1 hX h2)|((have dI:Act->World->Prop:=λ_ _=>True);(have t1:True:=trivial);(have fq:Act->World->Prop:=λ_ _=>True);(have t2:True:=trivial);exact k.out dI t1 fq t2)))):P:=h (hid λ_ _ _ _=>k)
def AF{P:Prop}{cn:(Act->World->Prop)->Prop}{fa:∀x,cn x->(Act->World->Prop)->Prop}{Q:∀x y bo,fa x y bo->Prop}(k:∀{x} {y:cn x} {bo} {br:fa x y bo},Q x y bo br)(h:Hid (∀x y bo br,Q x y bo br)->P:=by (intro k;refine ag ?_;refine aF ?_;refine v4 ?_;(first|(rename_i dL h1;(have dI:Act->World->Prop:=λ_ _=>True);(have t1:True:=trivial);with_reducible exact k.out dI t1 dL h1)|(rename_i dL h1 hX h2;with_reducible exact k.out dL h1 hX h2)|((have dI:Act->World->Prop:=λ_ _=>True);(have t1:True:=trivial);(have fq:Act->World->Prop:=λ_ _=>True);(have t2:True:=trivial);exact k.out dI t1 fq t2)))):P:=h (hid λ_ _ _ _=>k)
section
theorem aX.cellsOf{w}{B m sz t:Nat}{cs}(h:aX w B cs.toArray t)(a:cs.length=m*sz):Cells w sz (ab ⟨B,0,af⟩) m cs:=
 ⟨a,λ_=>⟨_,rfl,λj u b=>by grind[nD,aX.cell]⟩⟩
section
variable {P:ew} {o:cR} {a:bV} {w:aN} {K:bV->aN->Prop} {Q:Exit->bV->aN->Prop}
def cI(t e sz:Nat)(x d)(g:o.op=C4 t x d)(j:P.underlying t=ab (.slice e))(p:(P.info? e).map (·.size)=ab sz)(b off n c i k:Nat)(hx:a.eval x=.slice (ab ⟨b,off,af⟩) n c)(hi:a.eval d=J R (i:Int))(h:i<n)(hk:off+i*sz=k):
 (bw a.eval o).run P w=a8 (c8 (ay (ab ⟨b,k,af⟩))) w:=by
 cases hq:P.info? e with
 |none=>grind
 |some l=>
  have hsz:l.size=sz:=aG;have h1:(i:Int)<(n:Int):=ae;subst hk;have f:(⟨b,off,_⟩:Addr).add (i*sz)=⟨b,_,_⟩:=N' _ _ _;unfold bw;simp[g,hx,hi,UM,y',gl,gG j,sizeOf,mV,hq,hsz,f];intro m;omega
end
end
open Go.Shelf
def Tryz.aqm:Go.Shelf.Ren:=⟨λ|116=>282|115=>258|n=>n,λ|37=>22|4=>4|3=>3|9=>9|5=>5|n=>n,λ|n=>n⟩
def Tryz.SN:aw2 ax Tryz.aqm:={
 mixed:=aT
 f115:=func258.trans (congrArg ab aT)
 f116:=func282.trans (congrArg ab aT)
 t3:=j2
 a3:=Tryz.isAgg3
 z3:=Tryz.sizeOf3
 v3:=Tryz.zeroValue3
 t4:=Tryz.underlying4
 a4:=Tryz.isAgg4
 z4:=Tryz.sizeOf4
 v4:=Tryz.zeroValue4
 t9:=Tryz.underlying9
 a9:=Tryz.isAgg9
 z9:=Tryz.sizeOf9
 v9:=Tryz.zeroValue9
 t37:=Tryz.underlying22
 a37:=isAgg22
 z37:=sizeOf22
 v37:=zeroValue22
 t5:=Tryz.underlying5
 a5:=Tryz.isAgg5
 z5:=Tryz.sizeOf5
 v5:=Tryz.zeroValue5}
namespace G
open Go.RowKit Go.MapKept Go.WideMaps
open Go.Maps (Keyed)
def encI(x:Int):Value:=J R x
def db(x:Int):Prop:=-9223372036854775808<=x/\x<=9223372036854775807
def vi(e:Int×Int):Value:=.agg #[J R e.1,J R e.2]
def qN(e:Int×Int):Prop:=db e.1/\db e.2
def Nb{x}(h:db x):(Lit.int R x).wf=true:=WalkArith.wf_i64 h
def o4:sg ax 3 encI db:=
 ⟨Maps.int_keyed j2,λh=>⟨_,Maps.keyOf_int_mk j2 (Nb h)⟩,λh=>by grind[encI]⟩
def laidOut:laidOutB ax=true:=aw
def amm:(192:gm)<ax.types.size:=of_decide_eq_true aw
def amg:ax.keyTypeAt 2 192=true:=aw
def amj:KeyLaw ax 192:=by refine deep_law_laid laidOut (m:=2) ae amm amg ?_;kernel_rfl
def amn:ax.keyType 192=true:=aw
def amh:ax.cellsOf 192=2:=aw
def apK:ax.cellsOf 3=1:=aw
def auZ:∃m,ax.types.size=m+1:=by have h:(decide (0<ax.types.size))=true:=aw;have a:0<ax.types.size:=of_decide_eq_true h;exact⟨ax.types.size -1,ae⟩
def amk{e}(h:qN e)n:ax.keyLits (n+1+1) 192 (vi e).cells.toList=ab [.int R e.1,.int R e.2]:=by have h1:=Nb h.1;have a:=Nb h.2;simp[Program.keyLits,amh,apK,vi,Value.cells,h1,a]
def ami e:(vi e).formed ax 192=true:=aT
def aml{e}(h:qN e):∃l,keyOf ax 192 (vi e)=ab l:=by obtain⟨m,b⟩:=auZ;have a:=amk h m;unfold keyOf;rw[b,a,underlying192];simp only[amn,ami,Bool.and_self,if_true,Option.map_some];exact⟨_,aa⟩
def L0:sg ax 192 vi qN:=
 ⟨Keyed.of_law amj,aml,λ{x y} h=>by grind[vi]⟩
end G
end Go.Proofs.YtcmhplknoglbkaaGreat
