/- Part 3 of the proof of TopConvertsSaid. -/
import Derived.Test.YtcmhplknoglbkaaGreat0
import Derived.Test.YtcmhplknoglbkaaGreat2
set_option linter.all false
set_option maxRecDepth 100000
set_option maxHeartbeats 4000000
open Go.Proofs.Tryz
open Array renaming getElem?_eq_getElem->Uv,getElem?_eq_none->afs,getElem?_eq_some_iff->pf,replicate->NT
open Bool renaming eq_iff_iff->afB,false->au,true->aB
open Go.Exit renaming normal->sh
open Go.Next renaming value->c8
open Go renaming Oper->cR,PanicEntry->q',Program->ew,Value->aP,World->aN,mem_ready->JA,undef->aZ,yielded->cY
open Go.Oper renaming wp_mono->afY
open Go.Region renaming noSelect_spec->OK,wanted->c4
open Inhabited renaming default->n3
open List renaming all_eq_true->Ds,append_assoc->j5,eq_nil_iff_forall_not_mem->Du,filter_congr->Dv,filter_eq_nil_iff->W9,filter_eq_self->zo,getElem?_eq_none->Gr,getElem?_eq_none_iff->P4,map_append->gy,map_congr_left->DA,mem_append->iD,mem_append_left->A',mem_filter->mZ,mem_range->m',nodup_append->xV,not_mem_nil->gb,perm_ext_iff_of_nodup->P7,range->dG
open Nat renaming add_sub_cancel_left->tD,strongRecOn->P9,zero_le->cQ
open Or renaming inl->bJ,inr->b3
namespace Go.Proofs.YtcmhplknoglbkaaGreat
section
open Go.RowKit Go.MapKept
section
variable {P:ew} {ops:Array cR} {Q:Exit->Act->aN->Prop} {dst:Nat->Option Tmp} {U:Type}
def AH(D:List (List Nat))(done:List Nat):Prop:=∀j∈done,∀k∈D.getD j [],k∈done
def Xl(P:ew)(ops:Array cR)(dst:Nat->Option Tmp)(D:List (List Nat))(val:(Nat->U)->Nat->aP)(nA:List Nat->(Nat->U)->aN->Prop)(QP:List q'->aN->Prop)(a0:Act)(i:Nat):Prop:=
 ∀done us w,AH D done->(∀j∈done,j<ops.size)->i∉done->(∀k∈D.getD i [],k∈done)->nA done us w->∀K:Act->aN->Prop,Shut (∀u iE w',lC (dst i) iE=val (dA us i u) i->iE.defers=a0.defers->nA (done++[i]) (dA us i u) w'->K iE w')->
  match ops[i]? with
  |none=>True
  |some o=>if c4 o (cY ops (e8 dst (val us) a0 (D.getD i [])).tmps)=aB then o.wp P (e8 dst (val us) a0 (D.getD i [])) w K (λe _ w'=>match e with|.panic c=>QP c w'|_=>False)
   else K ((e8 dst (val us) a0 (D.getD i [])).put (dst i) aZ) w
def avz {D val nA QP a0}
 (hk:Jd ops dst D) (hsz:∀i d,i<ops.size->dst i=some d->d<a0.tmps.size)
 (Hb:∀c a w,a.defers=a0.defers->QP c w->Q (.panic c) a w)
 (hloc:∀j,j<ops.size->∀us kr,(∀k,k=j\/k∈D.getD j []->us k=kr k)->val us j=val kr j)
 (hop:∀i,i<ops.size->Xl P ops dst D val nA QP a0 i)
 (hend:∀done us w',(∀j,j<ops.size->j∈done)->(∀j∈done,j<ops.size)->nA done us w'->Q sh (e8 dst (val us) a0 (dG ops.size)) w'):
 ∀(fuel) done eF (us:Nat->U) w,((dG ops.size).filter (λj=>decide (j∉done))).length<=fuel->
  (∀j d,eF.getD j d=if j<ops.size then decide (j∈done)else d)->eF.size=ops.size->(∀j∈done,j<ops.size)->AH D done->nA done us w->
  wpAny P .any ops Q fuel eF (e8 dst (val us) a0 done) w:=by
 have hJ:∀(done) us w,(∀j,j<ops.size->j∈done)->(∀j∈done,j<ops.size)->nA _ us w->Q _ (e8 _ _ a0 _) w:=
  λdone us w hall hlt f'=>by rw[au3 (n:=_) hk.uniq a0 hlt (l':=_) (λj=>⟨λh=>m'.2 (hlt j h),λh=>hall j (m'.1 h)⟩)];exact hend _ us w hall hlt f'
 intro fuel;induction fuel with
 |zero=>
  intro done eF us w hf BV wV hlt fD f'
  have hall:∀j,j<ops.size->j∈done:=λj hj=>by have:(dG ops.size).filter (λj=>decide (j∉done))=[]:=List.eq_nil_of_length_eq_zero ae;have:=W9.1 this j (m'.2 hj);simpa using this
  refine⟨?_,hJ _ us w hall hlt f'⟩;refine Du.2 (λj hj=>?_);obtain⟨h0,o,ho,_⟩:=JA.1 hj;have hj:=(pf.1 ho).1;rw[BV j _,if_pos hj]at h0;exact absurd (hall j hj) (by simpa using h0)
 |succ fuel bY=>
  intro done eF us w hf BV wV hlt fD f';refine⟨λhnil=>?_,λi hi=>?_⟩
  .refine hJ _ us w (λj=>?_) hlt f';induction j using P9 with
   |ind j apu=>
    intro hj;by_cases hd:j∈done;·exact hd
    .exfalso
     have:=JA.2 ⟨by rw[BV j _,if_pos hj];simpa using hd,_,Uv hj,λe he hb=>by have h1:=hk.after j _ (Uv hj) e he hb;have h2:=hk.lt j hj _ h1;rw[BV _ _,if_pos ae];simpa using apu e.on h2 ae⟩;rw[hnil]at this;cases this
  .obtain⟨h0,o,ho,an6⟩:=JA.1 hi;have cT:=(pf.1 ho).1;have eh:i∉done:=by rw[BV i _,if_pos cT]at h0;simpa using h0
   have vm:dst i=o.dst:=by rw[hk.Q1 i cT];simp[oo,ho]
   have K5:∀k∈D.getD i [],k∈done:=by
    intro k rQ;obtain⟨e,he,hb,h⟩:=hk.reach i o ho k rQ;have h1:=an6 e he hb;have hen:e.on<ops.size:=by have:=hk.lt i cT _ (hk.after i o ho e he hb);omega
    rw[BV _ _,if_pos hen]at h1;have h2:=by simpa using h1
    rcases h with h|h;·exact h▸h2
    .exact fD _ h2 k h
   have zO:∀t∈o.looksAt _,(e8 _ _ a0 _).tmps[t]?=(e8 _ (val us) a0 done).tmps[t]?:=λt ht=>by
    by_cases hs:t<a0.tmps.size
    .by_cases hj:∃j∈done,dst j=some t
     .obtain⟨j,hj,zT⟩:=hj
      have aoo:j∈D.getD i []:=by
       rcases hk.looks i o ho t ht j (hlt j hj) zT with h|h|h;·exact absurd (h▸hj) eh
       .exact h
       .exact absurd (fD j hj i h) eh
      have u:=λk yr e=>by
       by_cases hkj:k=j;·exact hkj
       .exact absurd zT (hk.uniq k j yr (hlt j hj) hkj t e)
      rw[IM zT _ _ (λk hk e=>u k (hlt k (K5 k hk)) e) aoo hs,IM zT _ _ (λk hk e=>u k (hlt k hk) e) hj hs]
     .rw[Fk _ _ (λk hk e=>hj ⟨k,K5 k hk,e⟩),Fk _ _ (λk hk e=>hj ⟨k,hk,e⟩)]
    .have hs':a0.tmps.size<=t:=Nat.le_of_not_lt hs;rw[afs (by rw[qX];exact hs'),afs (by rw[qX];exact hs')]
   have LI:=OK hk.uA;have jl:=eval_congr (ops:=_) o _ _ (λcs c=>LI i o cs c ho) zO;have yB:=T3 (ops:=_) o _ _ zO
   have HP:∀v u w',v=val (dA us i u) i->nA (done++[i]) (dA us i u) w'->wpAny P .any ops Q fuel (eF.setIfInBounds i aB) ((e8 dst (val us) a0 done).put o.dst v) w':=λv u w' hv anM=>by
    have Eu:∀j∈done,val us j=val (dA us i u) j:=λj hj=>hloc j (hlt j hj) _ _ (λk hk=>by
     have:k≠i:=λe=>by
      subst e;rcases hk with h|h;·exact eh (h▸hj)
      .exact eh (fD j hj _ h)
     simp[dA,this])
    have bD:(e8 dst (val us) a0 done).put o.dst v=e8 dst (val (dA us i u)) a0 (done++[i]):=by rw[TX,<-hv,<-vm,CD done a0 Eu]
    rw[bD];refine bY _ _ _ w' ?_ ?_ (by simpa using wV) ?_ ?_ anM
    .have RY:((dG ops.size).filter (λj=>decide (j∉done++[i]))).length<((dG ops.size).filter (λj=>decide (j∉done))).length:=by
      have:(dG ops.size).filter (λj=>decide (j∉done++[i]))=((dG ops.size).filter (λj=>decide (j∉done))).filter (λj=>decide (j≠i)):=by rw[List.filter_filter];refine Dv (λj _=>?_);by_cases h1:j∈done<;>by_cases h2:j=i<;>simp[h1,h2]
      rw[this];exact List.length_filter_lt_length_iff_exists.2 ⟨i,mZ.2 ⟨m'.2 cT,by simpa using eh⟩,aU⟩
     omega
    .intro j d;by_cases mF:i=j;·subst mF;have:i<eF.size:=ae;simp[cT,this]
     .rw[getD_set_ne d mF,BV j d];by_cases hj:j<ops.size;·have:¬j=i:=λe=>mF e.symm;simp[hj,this]
      .simp[hj]
    .intro j hj;rcases iD.1 hj with h|h;·exact hlt j h
     .obtain rfl:j=i:=by simpa using h
      exact cT
    .intro j hj k hkj;rcases iD.1 hj with h|h;·exact A' _ (fD j h k hkj)
     .obtain rfl:j=i:=by simpa using h
      exact A' _ (K5 k hkj)
   have aaU:=hop i cT _ us w fD hlt eh K5 f';unfold wpOp;simp only[ho];by_cases hw:c4 o (cY ops (e8 dst (val us) a0 done).tmps)=aB
   .rw[if_pos hw]
    have B6:=aaU (λiE w'=>iE.defers=(e8 dst (val us) a0 (D.getD i [])).defers/\(∃u,lC _ iE=val _ i/\nA _ _ w'))
     (λu iE w' h1 h2 h3=>by rw[vm]at h1;exact⟨by rw[CE];exact h2,u,h1,h3⟩);simp only[ho]at B6;rw[yB,if_pos hw]at B6;refine bJ ?_
    have:=afh (a:=_) (Qa:=Q) (K:=λv w'=>∃u,v=val (dA us i u) i/\nA _ (dA us i u) w') jl (λd hd=>by rw[qX];exact hsz i d cT (vm.trans hd)) (by rw[qX,qX])
     (λc w h=>Hb c _ w (by rw[CE]) h) (λh=>by obtain⟨_,_,h⟩:=h;exact h.elim) B6;exact afY (λbz w' ⟨v,e,_,u,h1,h2⟩=>by subst e;exact HP v u w' h1 h2) this
   .rw[if_neg hw]
    have B6:=aaU (λiE w'=>(∃u,lC _ iE=val _ i/\nA _ _ w'))
     (λu iE w' h1 _ h3=>by rw[vm]at h1;exact⟨u,h1,h3⟩);simp only[ho]at B6;rw[yB,if_neg hw,vm,Mu _ _ _ (λd hd=>by rw[qX];exact hsz i d cT (vm.trans hd)) (λ_=>aa)]at B6;obtain⟨u,h1,h2⟩:=B6;exact HP aZ u w h1 h2
def yb(ops:Array cR):List (List Nat):=
 ops.toList.foldl (λacc o=>acc++[o.after.foldl (λs e=>if Region.binds .any e then let s2:=(acc.getD e.on []).foldl (λs k=>if s.contains k then s else k::s) s;if s2.contains e.on then s2 else e.on::s2 else s) []]) []
structure Qb where
 sec:Nat
 A:Option Addr
 c:Nat
 bs:List Int
structure nu where
 cC:Nat
 e2:Nat
 A:Option Addr
 c:Nat
 L:List Qb
structure e4 where
 A:Option Addr:=none
 b:Nat:=0
 c:Nat:=0
 aK:Option Addr:=none
 eZ:Nat:=0
 c2:Nat:=0
 sA:Nat:=0
 XM:Nat:=0
 XN:Nat:=0
 v:Value:=aZ
 m:nu:=⟨0,0,none,0,[]⟩
 t:bu:=emp
def dm(bl:List bu)(out:(Nat->e4)->Nat->bu)(us:Nat->e4)(n:Nat):bu:=match bl[n]? with|some t=>t|none=>out us (n -bl.length)
def Kg(P:ew)(ops:Array cR)(dst:Nat->Option Tmp)(LE:List Nat)(bU:Nat->e4->aP)(an:aN)(FX:Nat->Prop)(bl:List bu)(out:(Nat->e4)->Nat->bu)(ins rd:Nat->List Nat)(QP:List q'->aN->Prop)(us:Nat->e4)(i:Nat)(o:cR)(a:Act):Prop:=
 ∀w (Fr:List bu),ai an FX w ((ins i).map (dm bl out us)++((rd i).map (dm bl out us)++Fr))->∀K:Act->aN->Prop,Shut (∀u iE w',lC (dst i) iE=bU i u->iE.defers=a.defers->ai an FX w' (out (dA us i u) i::((rd i).map (dm bl out us)++Fr))->K iE w')->
  if c4 o (cY ops a.tmps)=aB then o.wp P a w K (λe _ w'=>match e with|.panic c=>QP c w'|_=>False)else K (a.put (dst i) aZ) w
def c9(P:ew)(ops:Array cR)(Q:Exit->Act->aN->Prop)(dst:Nat->Option Tmp)(LE:List Nat)(bU:Nat->e4->aP)(an:aN)(FX:Nat->Prop)(bl:List bu)(out:(Nat->e4)->Nat->bu)(ins rd:Nat->List Nat)(fin:List Nat)(QP:List q'->aN->Prop)(us:Nat->e4):Nat->List cR->Act->Prop
 |_,[],a=>∀w',ai an FX w' (fin.map (dm bl out us))->Q sh a w'
 |i,o::rest,a=>
  if i∈LE then Kg P ops dst LE bU an FX bl out ins rd QP us i o a/\c9 P ops Q dst LE bU an FX bl out ins rd fin QP us (i+1) rest (a.put o.dst (bU i (us i)))
  else ∃v,((c4 o (cY ops a.tmps)=aB/\∀w (Fr:List bu),ai an FX w ((rd i).map (dm bl out us)++Fr)->(execOp a.eval o).run P w=.ok (c8 v) w)\/(c4 o (cY ops a.tmps)=au/\v=aZ))/\
   c9 P ops Q dst LE bU an FX bl out ins rd fin QP us (i+1) rest (a.put o.dst v)
def alive(m:Nat)(LE:List Nat)(ins:Nat->List Nat)(size:Nat)(done:List Nat)(n:Nat):Bool:=
 (decide (n<m)||(LE.contains (n -m)&&done.contains (n -m)))&&(dG size).all λc=>!(done.contains c&&(ins c).contains n)
def Fc(m size:Nat)(D:List (List Nat))(LE:List Nat)(ins rd look:Nat->List Nat)(fin:List Nat):Bool:=
 LE.all (λi=>decide (i<size))&&
 ((dG size).all λi=>
   ((ins i).all λn=>decide (n<m+size)&&LE.contains i&&(decide (n<m)||(LE.contains (n -m)&&(D.getD i []).contains (n -m)))&&(dG size).all λc=>c==i||!(ins c).contains n)&&
   ((rd i).all λn=>decide (n<m+size)&&(decide (n<m)||(LE.contains (n -m)&&(D.getD i []).contains (n -m)))&&(dG size).all λc=>!(ins c).contains n||(c !=i&&(D.getD c []).contains i))&&
   decide (ins i).Nodup&&decide (rd i).Nodup&&(look i).all λk=>k==i||(D.getD i []).contains k)&&
 (fin==(dG (m+size)).filter (alive m LE ins size (dG size)))
section
variable {LE:List Nat} {bU:Nat->e4->aP} {an:aN} {FX:Nat->Prop} {bl:List bu} {out:(Nat->e4)->Nat->bu} {ins rd look:Nat->List Nat} {fin:List Nat} {QP:List q'->aN->Prop} {us:Nat->e4}
def ad4 {i o rest a v} (hi:decide (i∈LE)=au) (hw:c4 o (cY ops a.tmps)=aB) (hy:∀w Fr,ai an FX w ((rd i).map (dm bl out us)++Fr)->(execOp a.eval o).run P w=.ok (c8 v) w)
 (h:c9 P ops Q dst LE bU an FX bl out ins rd fin QP us (i+1) rest (a.put o.dst v)):c9 P ops Q dst LE bU an FX bl out ins rd fin QP us i (o::rest) a:=by
 unfold c9;grind
def atX {i o rest a} (hi:decide (i∈LE)=au) (hw:c4 o (cY ops a.tmps)=au)
 (h:c9 P ops Q dst LE bU an FX bl out ins rd fin QP us (i+1) rest (a.put o.dst aZ)):c9 P ops Q dst LE bU an FX bl out ins rd fin QP us i (o::rest) a:=by
 unfold c9;grind
def atW {i o rest a} (hi:decide (i∈LE)=aB) (hl:Kg P ops dst LE bU an FX bl out ins rd QP us i o a)
 (h:c9 P ops Q dst LE bU an FX bl out ins rd fin QP us (i+1) rest (a.put o.dst (bU i (us i)))):c9 P ops Q dst LE bU an FX bl out ins rd fin QP us i (o::rest) a:=by
 unfold c9;grind
def o9{i a}(h:∀w',ai an FX w' (fin.map (dm bl out us))->Q sh a w'):c9 P ops Q dst LE bU an FX bl out ins rd fin QP us i [] a:=h
def zx(P:ew)(ops:Array cR)(dst:Nat->Option Tmp)(LE:List Nat)(bU:Nat->e4->aP)(an:aN)(FX:Nat->Prop)(bl:List bu)(out:(Nat->e4)->Nat->bu)(ins rd:Nat->List Nat)(QP:List q'->aN->Prop)(us:Nat->e4)(a0:Act)(eW:Nat->aP)(k:Nat):Prop:=
 if k∈LE then Kg P ops dst LE bU an FX bl out ins rd QP us k (ops.getD k n3) (e8 dst eW a0 (dG k))/\eW k=bU k (us k)
 else(c4 (ops.getD k n3) (cY ops (e8 dst eW a0 (dG k)).tmps)=aB/\∀w (Fr:List bu),ai an FX w ((rd k).map (dm bl out us)++Fr)->(execOp (e8 dst eW a0 (dG k)).eval (ops.getD k n3)).run P w=.ok (c8 (eW k)) w)\/
  (c4 (ops.getD k n3) (cY ops (e8 dst eW a0 (dG k)).tmps)=au/\eW k=aZ)
def atY{D a0}(hk:Jd ops dst D):∀n i xn,ops.size -i=n->i<=ops.size->c9 P ops Q dst LE bU an FX bl out ins rd fin QP us i (ops.toList.drop i) (e8 dst xn a0 (dG i))->
 ∃eW,(∀k,k<i->eW k=xn k)/\(∀k,i<=k->k<ops.size->zx P ops dst LE bU an FX bl out ins rd QP us a0 eW k)/\∀w',ai an FX w' (fin.map (dm bl out us))->Q sh (e8 dst eW a0 (dG ops.size)) w':=by
 intro n;induction n with
 |zero=>
  intro i xn hn hi h;obtain rfl:i=ops.size:=ae;rw[List.drop_eq_nil_of_le aU]at h;exact⟨_,λ_ _=>rfl,λk h1 h2=>ae,h⟩
 |succ n bY=>
  intro i xn hn hi h;have cT:i<ops.size:=ae;have hlt:i<ops.toList.length:=ae;rw[List.drop_eq_getElem_cons hlt]at h;have pU:ops.toList[i]=ops.getD i default:=by simp[cT]
  have hd:dst i=(ops.getD i n3).dst:=by rw[hk.Q1 i cT];simp[oo,cT]
  rw[pU]at h
  have step:∀v,c9 P _ Q dst LE bU an FX bl out ins rd fin QP us _ _ ((e8 dst xn a0 _).put _ v)->
   ∃eW,(∀k,k<i->eW k=xn k)/\eW i=v/\(∀k,i+1<=k->k<ops.size->zx P ops dst LE bU an FX bl out ins rd QP us a0 eW k)/\∀w',ai an FX w' _->Q _ _ w':=λv hv=>by
   have e:e8 dst (dA xn i v) a0 (dG (i+1))=(e8 dst xn a0 (dG i)).put (ops.getD i n3).dst v:=by grind[List.range_succ,TX,CD,dA]
   rw[<-e]at hv;obtain⟨eW,h1,h2,h3⟩:=bY (i+1) (dA xn i v) ae cT hv;exact⟨eW,λk hk2=>by grind[dA],by grind[dA],h2,h3⟩
  have axM:∀eW:Nat->aP,(∀k,k<i->eW k=xn k)->e8 _ eW a0 _=e8 dst _ a0 _:=λeW h1=>CD _ _ (λj hj=>h1 j (m'.1 hj));unfold c9 at h;by_cases pO:i∈LE;·rw[if_pos pO]at h;obtain⟨eW,h1,h2,h3,h4⟩:=step _ h.2;refine⟨eW,h1,λk rP hk2=>?_,h4⟩;grind[zx]
  .rw[if_neg pO]at h;obtain⟨v,hv,hr⟩:=h;obtain⟨eW,h1,h2,h3,h4⟩:=step _ hr;refine⟨eW,h1,λk rP hk2=>?_,h4⟩;grind[zx]
end
section
variable {LE:List Nat} {bU:Nat->e4->aP} {an:aN} {FX:Nat->Prop} {bl:List bu} {out:(Nat->e4)->Nat->bu} {ins rd look:Nat->List Nat} {fin:List Nat} {QP:List q'->aN->Prop}
structure Qg (m size:Nat) (D:List (List Nat)) (LE:List Nat) (ins rd look:Nat->List Nat) (fin:List Nat):Prop where
 le:∀i∈LE,i<size
 abC:∀i,i<size->∀n∈ins i,n<m+size/\i∈LE
 abB:∀i,i<size->∀n∈ins i,n<m\/(n -m∈LE/\n -m∈D.getD i [])
 apI:∀i,i<size->∀n∈ins i,∀c,c<size->n∈ins c->c=i
 asO:∀i,i<size->∀n∈rd i,n<m+size
 MH:∀i,i<size->∀n∈rd i,n<m\/(n -m∈LE/\n -m∈D.getD i [])
 adv:∀i,i<size->∀n∈rd i,∀c,c<size->n∈ins c->c≠i/\i∈D.getD c []
 aq9:∀i,i<size->(ins i).Nodup
 ara:∀i,i<size->(rd i).Nodup
 L':∀i,i<size->∀k∈look i,k=i\/k∈D.getD i []
 fin:fin=(dG (m+size)).filter (alive m LE ins size (dG size))
def at5{m size D}(h:Fc m size D LE ins rd look fin=aB):Qg m size D LE ins rd look fin:=by
 unfold Fc at h;simp only[Bool.and_eq_true,Ds,decide_eq_true_eq,m',Bool.or_eq_true,List.contains_eq_mem,beq_iff_eq,Bool.not_eq_true',bne_iff_ne,decide_eq_false_iff_not]at h;obtain⟨⟨h1,h2⟩,h3⟩:=h;refine⟨h1,λi hi n hn=>?_,λi hi n hn=>?_,λi hi n hn c hc iI=>?_,λi hi n hn=>?_,λi hi n hn=>?_,λi hi n hn c hc iI=>?_,λi hi=>(h2 i hi).1.1.2,λi hi=>(h2 i hi).1.2,λi hi k hk=>(h2 i hi).2 k hk,h3⟩;·exact⟨((h2 i hi).1.1.1.1 n hn).1.1.1,((h2 i hi).1.1.1.1 n hn).1.1.2⟩
 .exact((h2 i hi).1.1.1.1 n hn).1.2
 .exact(((h2 i hi).1.1.1.1 n hn).2 c hc).resolve_right (λh=>h iI)
 .exact((h2 i hi).1.1.1.2 n hn).1.1
 .exact((h2 i hi).1.1.1.2 n hn).1.2
 .exact(((h2 i hi).1.1.1.2 n hn).2 c hc).resolve_left (λh=>h iI)
theorem Ks{m size done n}:alive m LE ins size done n=aB↔(n<m\/(n -m∈LE/\n -m∈done))/\∀c,c<size->c∈done->n∉ins c:=by grind[alive]
def lz(m size:Nat)(LE:List Nat)(ins:Nat->List Nat)(done:List Nat):List Nat:=(dG (m+size)).filter (alive m LE ins size done)
def L6{m size done}:(lz m size LE ins done).Nodup:=List.nodup_range.filter _
def EP{m size done n}:n∈lz m size LE ins done↔n<m+size/\(n<m\/(n -m∈LE/\n -m∈done))/\∀c,c<size->c∈done->n∉ins c:=by grind[lz,Ks]
def aca{m size D}(h:Qg m size D LE ins rd look fin){done}(fD:AH D done){i}(hi:i<size)(eh:i∉done)(eU:∀k∈D.getD i [],k∈done):
 (lz m size LE ins done).Perm (ins i++(rd i++(lz m size LE ins done).filter (λn=>!(ins i).contains n&&!(rd i).contains n))):=by
 have aap:=λn hn=>EP.2 ⟨(h.abC i hi n hn).1,(h.abB i hi n hn).imp id (λh1=>⟨h1.1,eU _ h1.2⟩),λc hc dr iI=>eh (h.apI i hi n hn c hc iI▸dr)⟩;have pY:=λn hn=>EP.2 ⟨h.asO i hi n hn,(h.MH i hi n hn).imp id (λh1=>⟨h1.1,eU _ h1.2⟩),λc hc dr iI=>eh (fD c dr i (h.adv i hi n hn c hc iI).2)⟩;refine(P7 L6 ?_).2 (λn=>?_)
 .refine xV.2 ⟨h.aq9 i hi,xV.2 ⟨h.ara i hi,L6.filter _,λa ha b hb e=>?_⟩,λa ha b hb e=>?_⟩;·grind
  .subst e;rcases iD.1 hb with hb|hb;·exact(h.adv i hi a hb i hi ha).1 aa
   grind
 grind
def aqA{m size D}(h:Qg m size D LE ins rd look fin){done}(fD:AH D done)(hlt:∀j∈done,j<size){i}(hi:i<size)(eh:i∉done)(eU:∀k∈D.getD i [],k∈done):
 (lz m size LE ins (done++[i])).Perm ((if i∈LE then[m+i]else[])++(rd i++(lz m size LE ins done).filter (λn=>!(ins i).contains n&&!(rd i).contains n))):=by
 have hs:=aca h fD hi eh eU;have aaQ:=(hs.nodup_iff.1 L6);have aoT:=(xV.1 aaQ).2.1
 have wW:∀n,n∈rd i++(lz m _ LE _ _).filter (λn=>!(ins i).contains n&&!(rd i).contains n)↔n∈lz m _ LE _ _/\n∉ins i:=λn=>by
  have h1:n∈lz m size LE ins done↔n∈ins i\/n∈rd i++(lz m size LE ins done).filter (λn=>!(ins i).contains n&&!(rd i).contains n):=by rw[hs.mem_iff,iD]
  refine⟨λh2=>⟨h1.2 (b3 h2),λh3=>?_⟩,λh2=>(h1.1 h2.1).resolve_left h2.2⟩;exact(xV.1 aaQ).2.2 n h3 n h2 aa
 have lS:m+i∉lz m size LE ins _:=λh1=>by
  have h2:=(EP.1 h1).2.1;rcases h2 with h2|h2;·omega
  .rw[tD]at h2;exact eh h2.2
 refine(P7 L6 ?_).2 (λn=>?_)
 .refine xV.2 ⟨by split<;>simp,aoT,λa ha b hb e=>?_⟩;subst e;split at ha
  .obtain rfl:a=m+i:=by simpa using ha
   exact lS ((wW _).1 hb).1
  .cases ha
 .rw[iD,wW,EP,EP];refine⟨λ⟨h1,h2,h3⟩=>?_,λhn=>?_⟩
  .by_cases aoR:n=m+i
   .subst aoR;left;rcases h2 with h2|h2;·omega
    .rw[tD]at h2;simp[h2.1]
   .right;refine⟨⟨h1,?_,λc hc dr=>h3 c hc (A' _ dr)⟩,h3 i hi aU⟩;rcases h2 with h2|⟨h2,h4⟩;·exact bJ h2
    .by_cases aoS:n<m;·exact bJ aoS
     .refine b3 ⟨h2,?_⟩;rcases iD.1 h4 with h4|h4;·exact h4
      .have:n -m=i:=by simpa using h4
       omega
  .rcases hn with hn|⟨⟨h1,h2,h3⟩,h4⟩
   .split at hn
    .rename_i pO;obtain rfl:=by simpa using hn
     refine⟨ae,b3 (by rw[tD];exact⟨pO,aU⟩),λc hc dr iI=>?_⟩;have h5:=h.abB c hc _ iI;rw[tD]at h5;rcases h5 with h5|h5;·omega
     .rcases iD.1 dr with h6|h6;·exact eh (fD c h6 i h5.2)
      .obtain rfl:c=i:=by simpa using h6
       exact eh (eU _ h5.2)
    .cases hn
   .refine⟨h1,h2.imp id (λh5=>⟨h5.1,A' _ h5.2⟩),λc hc dr=>?_⟩;rcases iD.1 dr with h6|h6;·exact h3 c hc h6
    .obtain rfl:c=i:=by simpa using h6
     exact h4
def T5 {w a0} (I:ai an FX w bl) D dst LE bU out (ins rd look) fin QP
 (hk:DW ops dst D=aB) (hsz:((dG ops.size).all λi=>match dst i with|some d=>decide (d<a0.tmps.size)|none=>LE.contains i)=aB) (hs:Fc bl.length ops.size D LE ins rd look fin=aB)
 (Hb:∀c a w,a.defers=a0.defers->QP c w->Q (.panic c) a w)
 (hloc:∀i,i∈LE->∀us kr:Nat->e4,(∀k,k∈look i->us k=kr k)->out us i=out kr i)
 (j':∀us,c9 P ops Q dst LE bU an FX bl out ins rd fin QP us 0 ops.toList a0):
 wpAny P .any ops Q ops.size (NT ops.size au) a0 {w with drawn:=w.drawn+1}:=by
 have hk:=amf hk;have hs:=at5 hs
 have aa9:∀i,i<ops.size->match dst i with|some d=>d<a0.tmps.size|none=>i∈LE:=λi hi=>by
  have:=Ds.1 hsz i (m'.2 hi);cases hd:dst i with
  |none=>simpa [hd]using this
  |some d=>simpa [hd]using this
 have hnone:∀i,i<ops.size->i∉LE->dst i≠none:=λi hi hn hd=>by have:=aa9 i hi;rw[hd]at this;exact hn this
 have hsz':∀i d,i<ops.size->dst i=some d->d<a0.tmps.size:=λi d hi hd=>by have:=aa9 i hi;rw[hd]at this;exact this
 have pU:∀i,i<ops.size->ops[i]?=some (ops.getD i n3):=λi hi=>by simp[hi]
 have Lk:∀i,i<ops.size->dst i=(ops.getD i _).dst:=λi hi=>by rw[hk.Q1 i hi];unfold oo;rw[pU i hi];rfl
 have auT:∀i,i<ops.size->∀us kr:Nat->e4,(∀k,(k=i\/k∈D.getD i [])->us k=kr k)->∀n,n<bl.length\/(n -bl.length∈LE/\(n -bl.length∈D.getD i []\/n -bl.length=i))->dm bl _ us n=dm bl _ _ n:=λi hi us kr he n hn=>by
  unfold dm;cases hq:bl[n]? with
  |some t=>rfl
  |none=>
   have mc:=P4.1 hq;rcases hn with hn|⟨hn,vu⟩;·omega
   .refine hloc _ hn us _ (λk hk2=>he k ?_);have h1:=hs.L' _ (hs.le _ hn) k hk2;rcases vu with vu|vu
    .rcases h1 with h1|h1;·exact b3 (h1▸vu)
     .exact b3 (hk.trans i hi _ vu k h1)
    .rw[vu]at h1;exact h1
 let fs (us:Nat->e4×aP):Nat->e4:=λk=>(us k).1;let r7 (us:Nat->e4×aP):Nat->Value:=λk=>(us k).2;let cn (us:Nat->e4×aP) (j:Nat):Prop:=∃w1 Fr,ai an FX w1 ((rd j).map (dm bl out (fs us))++Fr)/\(if j∈LE then r7 us j=bU j (fs us j)else r7 us j=Cm P ops w1 (ops.getD j n3) (e8 dst (r7 us) a0 (D.getD j [])))
 have Eu:∀(done) (us kr),AH D _->(∀j∈done,j<ops.size)->(∀j∈done,us j=kr j)->∀j∈done,cn us j->cn kr j:=λdone us kr fD hlt he j hj ⟨w1,Fr,h1,h2⟩=>by
  have o1:=hlt j hj
  have RJ:∀k,(k=j\/k∈D.getD j [])->fs us k=fs _ k:=λk hk2=>by show(us k).1=(kr k).1;rw[he k (hk2.elim (λe=>e▸hj) (λh=>fD j hj k h))]
  refine⟨w1,Fr,?_,?_⟩;·have:=DA (λn hn=>auT j o1 _ _ RJ n ((hs.MH j o1 n hn).imp id (λh=>⟨h.1,bJ h.2⟩)));rw[<-this];exact h1
  .have hv:r7 us j=r7 kr j:=by show(us j).2=(kr j).2;rw[he j hj]
   have hu:e8 _ (r7 us) a0 _=e8 dst (r7 _) a0 _:=CD _ _ (λk hk2=>by show(us k).2=(kr k).2;rw[he k (fD j hj k hk2)]);rw[<-hv,<-hu,<-RJ j (bJ aa)];exact h2
 have agree:∀(done) us eW,AH D done->(∀j∈done,j<ops.size)->(∀k,k<ops.size->zx P ops dst LE bU an FX bl out ins rd QP (fs us) a0 eW k)->(∀j∈done,cn us j)->∀j,j∈done->eW j=r7 us j:=by
  intro done us eW fD hlt hcm iU j;induction j using P9 with
  |ind j bY=>
   intro hj;have o1:=hlt j hj;have hc:=hcm j o1;obtain⟨w1,Fr,h1,h2⟩:=iU j hj;unfold zx at hc;by_cases pO:j∈LE;·rw[if_pos pO]at hc h2;rw[hc.2,h2]
   .rw[if_neg pO]at hc h2
    have zO:=acd (a0:=a0) (val:=eW) (val':=_) hk (pU j o1) (l:=_) (l':=_) (λk RR=>by
     have hkj:=m'.1 RR;exact⟨ae,λh=>by have:=hk.lt k ae j h;omega,ae⟩) (λk rQ=>by
     have hkj:=hk.lt j o1 k rQ;exact⟨ae,λh=>by have:=hk.lt k ae j h;omega,ae⟩) (λk rQ=>⟨m'.2 (hk.lt j o1 k rQ),rQ,bY k (hk.lt j o1 k rQ) (fD j hj k rQ)⟩);have jl:=eval_congr (ops:=_) _ _ _ (λcs c=>OK hk.uA j _ cs c (pU j o1)) zO;have yB:=T3 (ops:=ops) _ _ _ zO;rw[h2];unfold Cm;rcases hc with⟨h3,h4⟩|⟨h3,h4⟩;·rw[<-yB,if_pos h3,<-jl,h4 w1 Fr h1]
    .rw[<-yB,if_neg (by rw[h3];simp),h4]
 let nA (done:List Nat) (us:Nat->e4×aP) (w:aN):Prop:=ai an FX w ((lz bl.length ops.size LE ins done).map (dm bl out (fs us)))/\∀j∈done,cn us j
 have Zb:∀us:Nat->e4×aP,∃eW,(∀k,k<ops.size->zx P _ _ LE bU an FX bl _ _ rd QP _ a0 eW k)/\∀w',ai an FX w' _->Q _ _ w':=λus=>by obtain⟨eW,_,h2,h3⟩:=atY (a0:=a0) (Q:=Q) hk ops.size 0 (λ_=>aZ) ae (cQ _) (by simpa [e8]using j' (fs us));exact⟨eW,λk hk2=>h2 k (cQ _) hk2,h3⟩
 have aoX:∀i,i<ops.size->Xl P ops dst D r7 nA QP a0 i:=by
  intro i hi done us w1 fD hlt eh eU ⟨an1,iU⟩ K hK;simp only[pU i hi];have vm:=Lk i hi;obtain⟨eW,hcm,_⟩:=Zb us;have Ru:=agree _ us eW fD hlt hcm iU
  have zO:=acd (a0:=a0) (val:=eW) (val':=_) hk (pU i hi) (l:=_) (l':=_) (λk RR=>by
   have hkj:=m'.1 RR;exact⟨ae,λh=>by have:=hk.lt k ae i h;omega,ae⟩) (λk rQ=>by
   have hkj:=hk.lt i hi k rQ;exact⟨ae,λh=>by have:=hk.lt k ae i h;omega,ae⟩) (λk rQ=>⟨m'.2 (hk.lt i hi k rQ),rQ,Ru k (eU k rQ)⟩);have jl:=eval_congr (ops:=_) _ _ _ (λcs c=>OK hk.uA i _ cs c (pU i hi)) zO;have yB:=T3 (ops:=_) _ _ _ zO;have hsp:=(an1.perm ((aca hs fD hi eh eU).map _));rw[gy,gy]at hsp
  have aaO:∀(u:e4) (v:aP) (w':aN),(∀k,k≠i->dA us i (u,v) k=us k)->(if i∈LE then v=bU i u else v=Cm P ops w1 (ops.getD i n3) (e8 dst (r7 us) a0 (D.getD i [])))->
   ai an FX w' ((if i∈LE then[out (dA (fs us) i u) i]else[])++((rd i).map (dm bl out (fs us))++((lz bl.length ops.size LE ins done).filter (λn=>!(ins i).contains n&&!(rd i).contains n)).map (dm bl out (fs us))))->nA (done++[i]) (dA us i (u,v)) w':=by
   intro u v w' hne hv hst
   have aoi:fs (dA us i (u,v))=dA (fs us) i u:=by
    funext k;show(dA us i (u,v) k).1=dA (fs us) i u k;unfold dA;by_cases h:k=i;·rw[if_pos h,if_pos h]
    .rw[if_neg h,if_neg h]
   refine⟨?_,λj hj=>?_⟩
   .refine ai.perm ?_ ((aqA hs fD hlt hi eh eU).map _).symm;rw[gy,gy]
    have bD:(rd i).map (dm bl _ (fs _))=(rd i).map (dm bl _ (fs us)):=DA (λn hn=>by
     have h1:=hs.MH i hi n hn;unfold dm;cases hq:bl[n]? with
     |some t=>rfl
     |none=>
      have mc:=P4.1 hq;rcases h1 with h1|h1;·omega
      .refine hloc _ h1.1 _ _ (λk hk2=>?_);have h2:=hs.L' _ (hs.le _ h1.1) k hk2;have h3:=h2.elim (λe=>e▸eU _ h1.2) (λh=>fD _ (eU _ h1.2) k h);have h4:k≠i:=λe=>eh (e▸h3);show(dA us i (u,v) k).1=(us k).1;rw[hne k h4])
    have b9:((lz _ _ LE ins _).filter (λn=>!(ins i).contains n&&!(rd i).contains n)).map (dm bl _ (fs _))=((lz bl.length ops.size LE _ _).filter (λn=>!(ins i).contains n&&!(rd i).contains n)).map (dm bl out (fs us)):=DA (λn hn=>by
     have h1:=(EP.1 (mZ.1 hn).1).2.1;unfold dm;cases hq:bl[n]? with
     |some t=>rfl
     |none=>
      have mc:=P4.1 hq;rcases h1 with h1|h1;·omega
      .refine hloc _ h1.1 _ _ (λk hk2=>?_);have h2:=hs.L' _ (hs.le _ h1.1) k hk2;have h3:=h2.elim (λe=>e▸h1.2) (λh=>fD _ h1.2 k h);have h4:k≠i:=λe=>eh (e▸h3);show(dA us i (u,v) k).1=(us k).1;rw[hne k h4])
    have fH:(if i∈LE then[bl.length+i]else[]).map (dm bl out (fs (dA us i (u,v))))=(if i∈LE then[out (dA (fs us) i u) i]else[]):=by
     split;·rw[aoi];simp only[List.map_cons,List.map_nil,dm];rw[Gr ae,tD]
     .rfl
    rw[bD,b9,fH];exact hst
   .by_cases mF:j=i
    .subst mF;refine⟨w1,((ins j).map (dm bl out (fs us))++((lz bl.length ops.size LE ins done).filter (λn=>!(ins j).contains n&&!(rd j).contains n)).map (dm bl out (fs us))),?_,?_⟩
     .have bD:(rd j).map (dm bl _ (fs _))=(rd j).map (dm bl _ (fs us)):=DA (λn hn=>by
       have h1:=hs.MH j hi n hn;unfold dm;cases hq:bl[n]? with
       |some t=>rfl
       |none=>
        have mc:=P4.1 hq;rcases h1 with h1|h1;·omega
        .refine hloc _ h1.1 _ _ (λk hk2=>?_);have h2:=hs.L' _ (hs.le _ h1.1) k hk2;have h3:=h2.elim (λe=>e▸eU _ h1.2) (λh=>fD _ (eU _ h1.2) k h);have h4:k≠j:=λe=>eh (e▸h3);show(dA us j (u,v) k).1=(us k).1;rw[hne k h4]);rw[bD];refine hsp.perm ?_;rw[<-j5,<-j5];exact List.Perm.append_right _ List.perm_append_comm
     .have o3:r7 (dA us j (u,v)) j=v:=by show(dA us j (u,v) j).2=v;simp[dA]
      have hv2:fs (dA us j (u,v)) j=u:=by show(dA us j (u,v) j).1=u;simp[dA]
      have hv3:e8 dst (r7 (dA us j (u,v))) a0 (D.getD j [])=e8 dst (r7 us) a0 (D.getD j []):=CD _ _ (λk hk2=>by show(dA us j (u,v) k).2=(us k).2;rw[hne k (λe=>eh (e▸eU k hk2))]);rw[o3,hv2,hv3];exact hv
    .have BR:=(iD.1 hj).resolve_right (λh=>mF (by simpa using h));exact Eu _ us _ fD hlt (λk hk2=>(hne k (λe=>eh (e▸hk2))).symm) j BR (iU j BR)
  have aaN:∀(u) v,∀k,k≠i->dA us i (u,v) k=us k:=λu v k rR=>by simp[dA,rR]
  have hc:=hcm i hi;unfold zx at hc;by_cases pO:i∈LE
  .rw[if_pos pO]at hc;have hl:=hc.1 w1 _ hsp;rw[<-yB]
   have post:∀u w',ai an FX w' (out _ i::((rd i).map _++((lz _ _ LE ins _).filter (λn=>!(ins i).contains n&&!(rd i).contains n)).map _))->nA _ _ w':=λu w' h=>
    aaO u _ w' (aaN u _) (by rw[if_pos pO]) (by rw[if_pos pO];exact h);by_cases hw:c4 (ops.getD i n3) (cY ops (e8 dst eW a0 (dG i)).tmps)=aB
   .rw[if_pos hw]
    have hl2:=hl (λiE w'=>iE.defers=(e8 _ eW a0 _).defers/\∃u,lC _ iE=bU i u/\nA _ _ w')
     (λu iE w' h1 h2 h3=>⟨h2,u,vm▸h1,post u w' h3⟩);rw[if_pos hw]at hl2;have apa:=λd hd=>hsz' i d hi (vm.trans hd)
    have:=afh (a:=_) (Qa:=λe _ w'=>match e with|.panic c=>QP c w'|_=>False) (K:=λv w'=>∃u,v=bU i u/\nA _ (dA us i (u,bU i u)) w') jl
     (λd hd=>by rw[qX];exact apa d hd) (by rw[qX,qX]) (λc w h=>h) (λh=>h) hl2;refine afY (λbz w' ⟨v,e,h0,u,h1,h2⟩=>?_) this;refine hK.out _ _ w' ?_ (by rw[e,put_defers,CE]) h2;show lC (dst i) bz=(dA us i (u,bU i u) i).2;rw[vm,h0,h1];simp[dA]
   .rw[if_neg hw];have hl2:=hl (λiE w'=>∃u,lC _ iE=bU i u/\nA _ _ w') (λu iE w' h1 _ h3=>⟨u,h1,post u w' h3⟩);rw[if_neg hw]at hl2;obtain⟨u,h1,h2⟩:=hl2;have hz:=λt ht=>hsz' i t hi ht;rw[Mu _ _ _ (λt ht=>by rw[qX];exact hz t ht) (λ_=>aa)]at h1;refine hK.out _ _ w1 ?_ (by rw[put_defers,CE]) h2;rw[Mu _ _ _ (λt ht=>by rw[qX];exact hz t ht) (λ_=>aa),h1];show bU i u=(dA us i (u,bU i u) i).2;simp[dA]
  .rw[if_neg pO]at hc;have aap:=Du.2 (λn hn=>pO (hs.abC i hi n hn).2)
   have aa5:ai an FX w1 ((rd i).map (dm bl out (fs us))++((lz bl.length ops.size LE ins done).filter (λn=>!(ins i).contains n&&!(rd i).contains n)).map (dm bl out (fs us))):=by have h:=hsp;rw[aap]at h⊢;simpa using h
   have post:∀v,v=Cm P _ w1 _ _->nA _ (dA us i ((us i).1,v)) w1:=λv hv=>
    aaO _ v w1 (aaN _ _) (by rw[if_neg pO];exact hv) (by rw[if_neg pO];exact aa5);have hz:∀t,dst i=some t->t<(e8 dst (r7 us) a0 (D.getD i [])).tmps.size:=λt ht=>by rw[qX];exact hsz' i t hi ht
   have fin:∀v',(dst i=none->v'=aZ)->v'=Cm P _ w1 _ _->K ((e8 _ _ a0 _).put _ v') w1:=λv' hn e=>by refine hK.out _ _ w1 ?_ (by rw[put_defers,CE]) (post v' e);rw[Mu _ _ _ hz hn];show v'=(dA us i ((us i).1,v') i).2;simp[dA]
   rcases hc with⟨h3,h4⟩|⟨h3,h4⟩;·have h5:=h4 w1 _ aa5;rw[jl]at h5;have h6:=h3;rw[yB]at h6;rw[if_pos h6];unfold Oper.wp;rw[h5];show K _ _;rw[<-vm];exact fin _ (λh=>absurd h (hnone i hi pO)) (by unfold Cm;rw[if_pos h6,h5])
   .have h6:=h3;rw[yB]at h6;rw[if_neg (by rw[h6];simp)];exact fin _ (λ_=>aa) (by unfold Cm;rw[if_neg (by rw[h6];simp)])
 have h:=avz (Q:=Q) (QP:=QP) (U:=e4×aP) hk hsz' Hb (λj _ us kr h=>by
  show(us j).2=(kr j).2;rw[h j (bJ aa)]) aoX
  (λdone us w' hall hlt ⟨h1,h2⟩=>by
    obtain⟨eW,hcm,hJ⟩:=Zb us;have fD:AH D _:=λj hj k hk2=>hall k (Nat.lt_trans (hk.lt j (hlt j hj) k hk2) (hlt j hj));have Ru:=agree _ us eW fD hlt hcm h2;have bD:e8 dst _ a0 _=e8 _ eW a0 _:=CD _ _ (λj hj=>(Ru j (hall j (m'.1 hj))).symm);rw[bD];refine hJ w' ?_
    have b9:fin=lz bl.length ops.size LE ins done:=by rw[hs.fin];unfold lz;refine Dv (λn _=>?_);rw[afB,Ks,Ks];refine and_congr (or_congr_right (and_congr_right λh=>⟨λ_=>hall _ (hs.le _ h),λ_=>m'.2 (hs.le _ h)⟩)) ⟨λh c hc _=>h c hc (m'.2 hc),λh c hc _=>h c hc (hall c hc)⟩
    rw[b9];exact h1)
  ops.size [] (NT ops.size au) (λ_=>({},aZ)) w.drew
  (by rw[zo.2 (λj _=>aU)];simp) (λj d=>by
   by_cases hj:j<ops.size;·simp[hj]
   .simp[hj]) aU aU (λ_ h=>(gb h).elim) ⟨by
    have e:(lz bl.length ops.size LE ins []).map (dm bl out (fs (λ_=>({},aZ))))=bl:=by
     have bD:lz bl.length ops.size LE ins []=dG bl.length:=by
      unfold lz
      have h1:∀n,alive _ LE ins ops.size [] n=decide (n<bl.length):=λn=>by rw[afB,Ks,decide_eq_true_eq];exact⟨λh=>h.1.resolve_right (λh=>by cases h.2),λh=>⟨bJ h,λ_ _ h=>by cases h⟩⟩
      rw[Dv (λn _=>h1 n),List.range_add,List.filter_append,zo.2 (λn hn=>by simpa using hn),W9.2 (λn hn=>by obtain⟨k,_,rfl⟩:=List.mem_map.1 hn;simp),List.append_nil]
     rw[bD];refine List.ext_getElem? (λn=>?_);rw[List.getElem?_map];by_cases hn:n<bl.length;·rw[List.getElem?_range hn];simp[dm,hn]
     .rw[Gr (by simpa using hn),Gr ae];rfl
    rw[e];exact I.aI (aq.drew _),λ_ h=>(gb h).elim⟩;exact h
end
end
end
end Go.Proofs.YtcmhplknoglbkaaGreat
