/- Part 0 of the proof of TopConvertsSaid. -/
import Derived.WalkKit
import Derived.WalkSpells
import Derived.WalkLawsBesides
import Derived.Maps.RangeWalk
import Derived.OneCell
import Derived.BigQuiet
import Derived.Deep.QuietTactic
import Derived.Test.YtcmhplknoglbkaaGreatProg
import Derived.Deep.RegionHeld3
import Derived.Laws.ResultCell
set_option linter.all false
set_option maxRecDepth 100000
set_option maxHeartbeats 4000000
open Go.Proofs.Tryz
open Bool renaming false->au,true->aB
open Go renaming Calls->aD,Value->aO,World->aM,bodyPost_ret->dn,cell_of_row->eB,heap_alloc_new->fe,results_cell_tmp->Ba,run_underlying->gF
open Go.ChangeMaps renaming heap_setBlock_other->De,heap_setBlock_same->Df,modify_eq_set->agi,setBlock->kR
open Go.Ending renaming returned->aA
open Go.Exit renaming inBlock->FU
open Go.Instr renaming findKey->agp,lookup->qj,mapUpdate->Dh
open Go.IntKind renaming i64->R
open Go.MapKept renaming run_getObj_map->zj,run_setObj_map->FZ,stamped_iff->OJ
open Go.Obj renaming cells->bc,map->iO
open Go.Proofs.Tryz renaming func115->ON,func96->OT,ntmps115->OV,ntmps96->O0,prog->ax
open Go.Result renaming andThen->JS
open Go.RowKit renaming Hid->aE
open Go.Value renaming agg->av,bool->ak,int->J,tuple->bg
open Go.World renaming cell?->zm,cell?_setCell_other->aio,cell?_setCell_same'->aip,frozen?->uR,size_alloc->zn
open List renaming find?_cons->XB,mem_map->gV,pairwise_iff_getElem->l3,pairwise_map->ya
open Nat renaming le_refl->cm
open Option renaming none->af,some->ab
namespace Go.Proofs.YtcmhplknoglbkaaGreat
theorem aa{α:Sort _}{a:α}:a=a:=rfl
def ex{α : Sort _}(x : α): ∃ z, x = z := ⟨x, rfl⟩
def ae{p:Prop}(h:p:=by omega):p:=h
def aw{p:Prop}(h:p:=by kernel_rfl):p:=h
def aT{p:Prop}(h:p:=by simp):p:=h
def bh{p:Prop}(h:p:=by decide):p:=h
def aS{p:Prop}(h:p:=by rfl):p:=h
def aF{p:Prop}(h:p:=by grind):p:=h
section
open Go.RowKit Go.MapKept
open Go.ChangeMaps (setBlock heap_setBlock_same heap_setBlock_other)
open Go.Maps (Keyed)
theorem hid{p}(h:p):aE p:=h
def CK{P f args}{w:aM}{n v}(h:aD P f args (w.drewN n) λe w'=>e=aA v/\w.drewN n=w'):
 aD P f args (w.drewN n) λe Ny=>e=aA v/\∃m,Ny=w.drewN m:=
 h.mono λ_ _ ⟨he,hm⟩=>⟨he,n,hm.symm⟩
def Fp{P f args}{w:aM}{a n v}(h:aD P f args (w.drewN (a+n)) λe w'=>e=aA v/\w.drewN (a+n)=w'):
 aD P f args (w.drewN (a+n)) λe Ny=>e=aA v/\∃m,Ny=w.drewN (a+m):=
 h.mono λ_ _ ⟨he,hm⟩=>⟨he,n,hm.symm⟩
structure ar (F:Nat->Prop) (w w':aM):Prop where
 os:w'.os=w.os
 tape:w'.tape=w.tape
 output:w'.output=w.output
 size:w.heap.size<=w'.heap.size
 block:∀k,k<w.heap.size->¬F k->w'.heap[k]?=w.heap[k]?
section
variable {F G:Nat->Prop} {w w' a b c:aM}
theorem ar.refl F w:ar F w w:=⟨rfl,rfl,rfl,cm _,λ_ _ _=>rfl⟩
theorem ar.mono(h:ar F w w')(aov:∀k,k<w.heap.size->F k->G k):ar G w w':=⟨h.os,h.tape,h.output,h.size,λk hk hn=>h.block k hk (λhf=>hn (aov k hk hf))⟩
theorem ar.trans(h:ar F a b)(k:ar G b c)(dT:∀i,i<a.heap.size->G i->F i):ar F a c:=
 ⟨k.os.trans h.os,k.tape.trans h.tape,k.output.trans h.output,Nat.le_trans h.size k.size,λi hi hn=>(k.block i (Nat.lt_of_lt_of_le hi h.size) (λhg=>hn (dT i hi hg))).trans (h.block i hi hn)⟩
theorem ar.alloc w o:ar F w (w.alloc o):=⟨rfl,rfl,rfl,aT,λk hk _=>Below.heap_alloc w o k hk⟩
def ar.drew w:ar F w w.drew:=⟨rfl,rfl,rfl,cm _,λ_ _ _=>rfl⟩
def ar.drewN w n:ar F w (w.drewN n):=⟨rfl,rfl,rfl,cm _,λ_ _ _=>rfl⟩
def ar.avN(h:ar F w.drew w'):ar F w w':=⟨h.os,h.tape,h.output,h.size,h.block⟩
def ar.of_grownBy{row}(h:w.grownBy w' row)(hr:∀k,row=ab k->F k\/w.heap.size<=k):ar F w w':=
 ⟨h.os,h.tape,h.output,h.size,λk hk hn=>h.block k hk (λe=>aF)⟩
def ar.ML{B}(h:Below B w w')(ic:w.heap.size<=B):ar F w w':=⟨h.os,h.tape,h.output,h.size,λk hk _=>h.block k ae⟩
theorem ar.setCell w{p}(hp:F p.block)u:ar F w (w.setCell p u):=
 ⟨rfl,rfl,rfl,aT,λk _ hn=>Below.heap_setCell w p u k (λe=>hn (e▸hp))⟩
theorem ar.below{B}(h:ar F w w')(ic:B<=w.heap.size)(hF:∀k,k<B->¬F k):Below B w w':=⟨h.os,h.tape,h.output,h.size,λk hk=>h.block k ae (hF k hk)⟩
theorem ar.heap(h:ar F w w'){k o}(hk:w.heap[k]?=ab o)(hn:¬F k):w'.heap[k]?=ab o:=
 (h.block k (Array.getElem?_eq_some_iff.1 hk).1 hn).trans hk
theorem ar.cell(h:ar F w w'){p v}(hp:w.cell? p=ab v)(hn:¬F p.block):w'.cell? p=ab v:=
 (World.cell?_of_block (w:=w) (h.block p.block (World.block_lt_of_cell? w p hp) hn)).trans hp
end
abbrev aq(w w':aM):Prop:=ar (λ_=>False) w w'
def aq.to{F w w'}(h:aq w w'):ar F w w':=h.mono (λ_ _ hf=>hf.elim)
theorem aq.below{w w'}(h:aq w w'):Below w.heap.size w w':=by grind[ar.below]
theorem aq.trans{a b c}(h:aq a b)(k:aq b c):aq a c:=by grind[ar.trans]
def cX(w:aM)(A:Option Addr)(xs:List Int):Prop:=
 0<xs.length->∃b off,A=ab ⟨b,off,af⟩/\∀j,j<xs.length->w.cell? ⟨b,off+j,af⟩=ab (J R (xs[j]?.getD 0))
theorem cX.nil{w A}:cX w A []:=λh=>absurd h aT
def cX.only{F w w' A xs}(h:cX w A xs)(k:ar F w w')(hn:∀b off,A=ab ⟨b,off,af⟩->¬F b):cX w' A xs:=λhp=>by obtain⟨b,off,rfl,hc⟩:=h hp;exact⟨b,_,rfl,λj hj=>k.cell (hc j hj) (hn b _ rfl)⟩
def cX.aH{w w' A xs}(h:cX w A xs)(k:aq w w'):cX w' A xs:=h.only k (λ_ _ _ hf=>hf)
theorem cX.lW{w}{base e n c:Nat}{A xs}(h:w.ownsRow base e 1 (.slice A n c) n (xs.map (J R))):cX w A xs:=λhp=>by
 have hn:=by simpa using h.1.symm
 rcases h.2 with⟨hv,h0⟩|⟨g,cap,cur,hv,hb,hg,iH,hcm,hcs,ht⟩;·omega
 .injection hv with h1 h2 h3;subst h1;refine⟨g,0,rfl,λj hj=>?_⟩;have hc:=h.cells (g:=g) rfl j (J R (xs[j]?.getD 0)) aF;grind[Addr.add]
def jy(w:aM)(A:Option Addr)(E:List (Int×Int)):Prop:=
 0<E.length->∃b off,A=ab ⟨b,off,af⟩/\∀j,j<E.length->w.cell? ⟨b,off+j*2,af⟩=ab (J R (E[j]?.getD (0,0)).1)/\w.cell? ⟨b,off+j*2+1,af⟩=ab (J R (E[j]?.getD (0,0)).2)
theorem jy.nil{w A}:jy w A []:=λh=>absurd h aT
def jy.only{F w w' A E}(h:jy w A E)(k:ar F w w')(hn:∀b off,A=ab ⟨b,off,af⟩->¬F b):jy w' A E:=λhp=>by obtain⟨b,off,rfl,hc⟩:=h hp;exact⟨b,_,rfl,λj hj=>⟨k.cell (hc j hj).1 (hn b _ rfl),k.cell (hc j hj).2 (hn b _ rfl)⟩⟩
def jy.aH{w w' A E}(h:jy w A E)(k:aq w w'):jy w' A E:=h.only k (λ_ _ _ hf=>hf)
section
variable {fc:Type} [DecidableEq fc]
structure sj (P:Program) (k:TypeId) (enc:fc->aO) (ok:fc->Prop):Prop where
 keyed:Keyed P k
 reads:∀{x},ok x->∃l,keyOf P k (enc x)=ab l
 inj:∀{x y},enc x=enc y->x=y
def dY(w:aM)(b:Nat)(enc:fc->aO)(ok:fc->Prop)(bj:List (fc×aO)):Prop:=
 ∃es clock,w.heap[b]?=ab (iO es clock)/\Stamped es clock/\es.size<=maxLen/\es.toList.map (λe=>(e.key,e.val))=bj.map (λp=>(enc p.1,p.2))/\∀p∈bj,ok p.1
def ec(bj:List (fc×aO))(x:fc):Option Value:=(bj.find? (λp=>decide (p.1=x))).map (·.2)
def rZ(bj:List (fc×aO))(x:fc):Bool:=bj.any (λp=>decide (p.1=x))
def jY(bj:List (fc×aO))(x:fc)(v:aO):List (fc×aO):=
 if rZ bj x then bj.map (λp=>if p.1=x then(x,v)else p)else bj++[(x,v)]
def Aq(bj:List (fc×aO))(x:fc):List (fc×aO):=bj.filter (λp=>!decide (p.1=x))
variable {P:Program} {k:TypeId} {enc:fc->aO} {ok:fc->Prop} {w w':aM} {b:Nat} {bj:List (fc×aO)}
omit [DecidableEq fc]in
def dY.lt(h:dY w b enc ok bj):b<w.heap.size:=by obtain⟨es,clock,hb,_⟩:=h;grind
omit [DecidableEq fc]in
def dY.only{F}(h:dY w b enc ok bj)(k:ar F w w')(hn:¬F b):dY w' b enc ok bj:=by obtain⟨es,clock,hb,r⟩:=h;exact⟨es,_,k.heap hb hn,r⟩
omit [DecidableEq fc]in
def dY.made(w:aM)enc(ok:fc->Prop):dY (w.alloc (iO #[] 0)) w.heap.size enc ok []:=
 ⟨#[],0,(MapKept.heap_alloc w _).1,stamped_empty 0,aT,aT,aT⟩
theorem MD{bj}{x:fc}:ec bj x=af↔∀p∈bj,p.1≠x:=by simp[ec]
theorem rY{bj}{x:fc}{v}(h:ec bj x=ab v):(x,v)∈bj:=by
 unfold ec at h;cases hf:bj.find? (λp=>decide (p.1=x))with
 |none=>grind
 |some p=>grind
theorem Iy{bj}{x:fc}:rZ bj x=aB↔∃p∈bj,p.1=x:=by simp[rZ]
theorem Iz{bj}{x:fc}:rZ bj x=(ec bj x).isSome:=by grind[rZ,ec]
omit [DecidableEq fc]in
def dY.nodup(h:dY w b enc ok bj):bj.Pairwise (λp q=>p.1≠q.1):=by obtain⟨es,clock,_,hs,_,he,_⟩:=h;have h3:=((OJ es _).1 hs).2.2;have h4:(es.toList.map (λe=>(e.key,e.val))).Pairwise (λp q=>p.1≠q.1):=ya.2 h3;rw[he,ya]at h4;exact h4.imp (λhne e=>hne (by rw[e]))
def xm{bj}(hd:bj.Pairwise (λp q=>p.1≠q.1)){x:fc}{v}(h:(x,v)∈bj):ec bj x=ab v:=by
 induction bj with
 |nil=>grind
 |cons p r bW=>grind[List.pairwise_cons,ec]
theorem Tl bj(x:fc)v y:ec (jY bj x v) y=if y=x then ab v else ec bj y:=by
 unfold jY;by_cases hh:rZ bj x=aB
 .rw[if_pos hh];unfold ec;induction bj with
  |nil=>grind[rZ]
  |cons p r bW=>
   rw[List.map_cons,XB,XB];by_cases hp:p.1=x
   .rw[if_pos hp];by_cases hy:y=x;·grind
    .have:¬x=y:=λe=>hy e.symm;have h2:¬p.1=y:=λe=>hy (e▸hp);simp only[this,decide_false,h2,if_neg hy];by_cases hr:rZ r x=aB;·grind
     .have:r.map (λp=>if p.1=x then(x,v)else p)=r:=by
       conv=>rhs;rw[<-List.map_id r]
       grind[List.map_congr_left,Iy]
      rw[this]
   grind[Iy]
 grind[ec,Iy]
theorem As{bj}{x:fc}{v p}(h:p∈jY bj x v):p=(x,v)\/(p∈bj/\p.1≠x):=by grind[jY,Iy]
def acQ bj(x:fc)v:(jY bj x v).length<=bj.length+1:=by grind[jY]
theorem ME{bj}{x:fc}v(h:rZ bj x=au):jY bj x v=bj++[(x,v)]:=by grind[jY]
def dY.find(C:sj P k enc ok)(h:dY w b enc ok bj){x}(hx:ok x):∃es clock,w.heap[b]?=ab (iO es clock)/\Stamped es clock/\es.size=bj.length/\es.toList.map (λe=>(e.key,e.val))=bj.map (λp=>(enc p.1,p.2))/\
 (((∀w1:aM,(agp k (enc x) es.toList).run P w1=.ok af w1)/\(∀e∈es.toList,e.key≠enc x)/\ec bj x=af)\/
   ∃j e,(∀w1:aM,(agp k (enc x) es.toList).run P w1=.ok (ab (j,e.val)) w1)/\es[j]?=ab e/\e.key=enc x/\ec bj x=ab e.val/\bj[j]?=ab (x,e.val)):=by
 have eg:=h.nodup;obtain⟨es,clock,hb,hs,hz,he,c'⟩:=h;obtain⟨Mz,hlx⟩:=C.reads hx;have hlen:=by have:=congrArg List.length he;simpa using this
 have Sh:∀e∈es.toList,∃l,keyOf P k e.key=ab l:=λe w5=>by have:(e.key,e.val)∈es.toList.map (λe=>(e.key,e.val)):=gV.2 ⟨e,w5,rfl⟩;rw[he]at this;obtain⟨p,hp,Ai⟩:=gV.1 this;simp at Ai;rw[<-Ai.1];exact C.reads (c' p hp)
 refine⟨es,_,hb,hs,hlen,he,?_⟩;rcases C.keyed.find w hlx es.toList Sh with⟨h1,h2⟩|⟨j,dS,h1,h2,h3⟩
 .refine .inl ⟨λw1=>?_,h2,MD.2 (λp hp SH=>?_)⟩
  .rcases C.keyed.find w1 hlx es.toList Sh with⟨RB,_⟩|⟨j,dS,_,hj,h3⟩;·omega
   grind
  .have:(enc p.1,p.2)∈bj.map (λp=>(enc _,p.2)):=gV.2 ⟨p,hp,rfl⟩;grind
 .have hk:bj[j]?=ab (x,dS.val):=by
   have h5:(es.toList.map (λe=>(e.key,e.val)))[j]?=ab (dS.key,dS.val):=aF;rw[he,List.getElem?_map]at h5;cases hq:bj[j]? with
   |none=>grind
   |some q=>
    rw[hq]at h5;simp at h5;rw[h3]at h5;have bB:=C.inj h5.1;rw[<-bB,<-h5.2]
  refine .inr ⟨j,dS,λw1=>?_,aF,h3,xm eg (List.mem_of_getElem? hk),hk⟩;rcases C.keyed.find w1 hlx es.toList Sh with⟨_,hno⟩|⟨azY,km,RB,RC,RD⟩;·grind
  grind[OJ,l3]
def dY.lookup{t e}(C:sj P k enc ok)(ht:P.underlying t=ab (.map k e)){z}(hz:∀w:aM,(zeroValue e).run P w=.ok z w)(h:dY w b enc ok bj){x}(hx:ok x):
 (qj t (.map (ab b)) (enc x) au).run P w=.ok ((ec bj x).getD z) w/\
 (qj t (.map (ab b)) (enc x) aB).run P w=.ok (bg #[(ec bj x).getD z,ak (ec bj x).isSome]) w:=by
 obtain⟨Mz,hlx⟩:=C.reads hx;obtain⟨es,clock,hb,hs,hsz,he,hf⟩:=h.find C hx;rcases hf with⟨h1,h2,h3⟩|⟨j,dS,h1,h2,h3,h4,h5⟩;·constructor<;>simp[qj,gF ht,zj hb,C.keyed.check w _ hlx,h1,hz w,JS,h3]
 .constructor<;>simp[qj,gF ht,zj hb,C.keyed.check w _ hlx,h1,JS,h4]
def dY.update{t e}(C:sj P k enc ok)(ht:P.underlying t=ab (.map k e))(h:dY w b enc ok bj)(hn:bj.length<maxLen){x}(hx:ok x)v:
 ∃w',(Dh t (.map (ab b)) (enc x) v).run P w=.ok () w'/\dY w' b enc ok (jY bj x v)/\w.grownBy w' (ab b)/\w'.heap.size=w.heap.size:=by
 obtain⟨Mz,hlx⟩:=C.reads hx;have eg:=h.nodup;have c':∀p∈bj,ok p.1:=by obtain⟨_,_,_,_,_,_,c'⟩:=h;exact c'
 obtain⟨es,clock,hb,hs,hsz,he,hf⟩:=h.find C hx;rcases hf with⟨h1,h2,h3⟩|⟨j,dS,h1,h2,h3,h4,h5⟩
 .have hh:rZ bj x=false:=by grind[Iz]
  refine⟨kR w b (iO (es.push ⟨enc x,v,clock⟩) (clock+1)),?_,⟨_,_,Df hb _,stamped_push hs h2,aF,?_,?_⟩,⟨rfl,rfl,rfl,by simp[kR],λi _ hi=>De hb _ (λe=>hi (by rw[e]))⟩,by simp[kR]⟩;·simp[Dh,gF ht,zj hb,C.keyed.check w au hlx,h1,FZ _ hb,kR]
  .grind[ME]
  .intro p hp;rcases As hp with rfl|⟨hp,_⟩;·omega
   .grind
 .have hh:rZ bj x=true:=by grind[Iz]
  have Sg:∀km,es[j]?=ab km->({km with key:=enc x,val:=v}:MapEntry).key=km.key:=λkm B3=>by grind
  refine⟨kR w b (iO (es.modify j (λkm=>{km with key:=enc x,val:=v})) clock),?_,⟨_,_,Df hb _,stamped_modify hs _ _ (λ_ _=>rfl) (λkm _ B3=>Sg km B3),aF,?_,?_⟩,⟨rfl,rfl,rfl,by simp[kR],λi _ hi=>De hb _ (λe=>hi (by rw[e]))⟩,by simp[kR]⟩;·simp[Dh,gF ht,zj hb,C.keyed.check w au hlx,h1,h2,h3,C.keyed.stays w hlx,FZ _ hb,kR]
  .have hj:es.toList[j]?=ab dS:=aF;rw[Array.toList_modify,agi _ _ _ _ hj,List.map_set,he];unfold jY;rw[if_pos hh];apply List.ext_getElem?;grind[l3]
  .intro p hp;rcases As hp with rfl|⟨hp,_⟩;·omega
   .grind
def Jb {t e ops rest o a Q} (hg:o.guard=af) (m x v) (hop:o.op=Op.mapUpdate t m x v)
 (C:sj P k enc ok) (ht:P.underlying t=ab (.map k e)) (h:dY w b enc ok bj) (hn:bj.length<maxLen) (hm:a.eval m=.map (ab b)) {y} (hy:ok y) (hx:a.eval x=enc y) val (hv:a.eval v=val)
 (hK:∀w',dY w' b enc ok (jY bj y val)->w.grownBy w' (ab b)->w'.heap.size=w.heap.size->wpList P ops Q rest (a.put o.dst undef) w'):wpList P ops Q (o::rest) a w:=by
 refine wpList_plain hg λx7 hK'=>?_;obtain⟨w',hrun,dV,ez,iW⟩:=h.update C ht hn hy val;unfold Oper.wp;simp[execOp,hop,hm,hx,hv,hrun];exact hK' _ _ (hK w' dV ez iW)
end
end
open Go.RowKit Go.MapKept
def db(x:Int):Prop:=-9223372036854775808<=x/\x<=9223372036854775807
def qQ(e:Int×Int):Prop:=db e.1/\db e.2
def eD(e:Int×Int):Prop:=0<=e.1/\0<=e.2/\e.1+e.2<=4611686018427387903
abbrev gI(e:Int×Int):Value:=av #[J R e.1,J R e.2]
def kM(a b:Int×Int):Int×Int:=if max a.1 b.1<min (a.1+a.2) (b.1+b.2)then(max a.1 b.1,min (a.1+a.2) (b.1+b.2) -max a.1 b.1)else(0,0)
def meets(a b:Int×Int):Bool:=decide (max a.1 b.1<min (a.1+a.2) (b.1+b.2))
def yj(w:aM)(x y)t:(w.alloc (bc #[x,y] t)).cell? ⟨w.heap.size,0,af⟩=ab x/\(w.alloc (bc #[x,y] t)).cell? ⟨w.heap.size,1,af⟩=ab y:=
 ⟨eB _ _ 0 _ _ _ (fe w _),eB _ _ 1 _ _ _ (fe w _)⟩
def lN(a b)w(h1:0<=a)(h2:0<=b)(h3:a+b<=4611686018427387903):
 aD ax 117 #[av #[J R a,J R b]] w λe w'=>e=aA (J R (a+b))/\aq w w':=by
 go_enter func117,ntmps117;go_wp2;go_ret;exact⟨aa,ar.alloc _ _⟩
def nW(e:Int×Int):Bool:=decide (0<=e.1)&&(decide (0<=e.2)&&decide (e.1+e.2<=4611686018427387903))
theorem FF{e}:nW e=aB↔eD e:=by simp[nW,eD]
def I9{a b}(h:¬eD (a,b)):nW (a,b)=false:=by grind[FF]
def afx(a b)w(ha:db a)(hb:db b):
 aD ax 115 #[av #[J R a,J R b]] w λe w'=>e=aA (ak (nW (a,b)))/\aq w w':=by
 obtain⟨ha1,ha2⟩:=ha;obtain⟨hb1,hb2⟩:=hb;by_cases h0:a<0\/b<0
 .rw[I9 (λh=>by have h1:=h.1;have h2:=h.2.1;simp only at h1 h2;omega)];by_cases hle:a<=b;·have h1:a<0:=ae;clear h0;go_enter ON,OV;go_wp2;go_ret;exact⟨aa,ar.alloc _ _⟩
  .have h1:b<0:=ae;clear h0;go_enter ON,OV;go_wp2;go_ret;exact⟨aa,ar.alloc _ _⟩
 .have EI:0<=a:=ae;have oD:0<=b:=ae;by_cases h4:4611686018427387903<a;·rw[I9 (λh=>by have h1:=h.2.2;simp only at h1;omega)];have h5:decide (a<=4611686018427387903)=false:=aF;clear h0;go_enter ON,OV;go_wp2;all_goals(go_ret;exact⟨aa,ar.alloc _ _⟩)
  .have h5:decide (a<=4611686018427387903)=true:=aF;have h6:0<=a:=ae;have h7:a<=4611686018427387903:=ae;obtain⟨r,hr⟩:∃r,decide (b<=4611686018427387903 -a)=r:=⟨_,aa⟩;have cA:aE (nW (a,b)=r):=hid (by grind[nW]);rw[cA.out];clear h0 h4 cA;go_enter ON,OV;go_wp2;all_goals(go_ret;exact⟨aa,ar.alloc _ _⟩)
def Iw w:aD ax 112 #[] w λe w'=>e=aA (J R 4611686018427387903)/\w=w':=by go_enter func112,ntmps112;go_wp2;go_ret;exact⟨aa,aa⟩
def ak2(lo hi least)w(h1:-4611686018427387904<=lo)(h2:lo<=4611686018427387903)(h3:-4611686018427387904<=hi)(h4:hi<=4611686018427387903)r(hr:decide (hi -lo<least)=r):
 aD ax 279 #[J R lo,J R hi,J R least] w λe w'=>e=aA (bg #[if r=aB then gI (0,0)else gI (lo,hi -lo),ak (!r)])/\aq w w':=by
 cases r
 all_goals
  go_enter func279,ntmps279;go_wp2;(try simp only[FU,Exit.then]);refine dn (v:=bg #[_,_]) ?_ aa ⟨aa,ar.alloc _ _⟩;rw[Ba aa];go_simp
def aai(a b at_)w(h:eD (a,b))r(hr:decide (a<=at_/\at_<a+b)=r):
 aD ax 244 #[av #[J R a,J R b],J R at_] w λe w'=>e=aA (ak r)/\aq w w':=by
 obtain⟨h1,h2,h3⟩:=h;simp only at h1 h2 h3;by_cases h0:a<=at_;·have h4:decide (a<=at_)=true:=aF;have h5:decide (at_<a+b)=r:=aF;clear hr h0;go_enter Tryz.func244,Tryz.ntmps244;go_wp2;go_ret;exact⟨aa,ar.alloc _ _⟩
 .have h4:decide (a<=at_)=false:=aF;obtain rfl:r=false:=aF;clear hr h0;go_enter Tryz.func244,Tryz.ntmps244;go_wp2;go_ret;exact⟨aa,ar.alloc _ _⟩
def aev(a b)w(ha:db a)(hb:db b):
 aD ax 96 #[av #[J R a,J R b]] w λe w'=>e=aA (ak (nW (a,b)))/\aq w w':=by
 obtain⟨ha1,ha2⟩:=ha;obtain⟨hb1,hb2⟩:=hb;by_cases h0:0<=a
 .have d0:decide (0<=a)=true:=aF;by_cases h1:0<=b
  .have d1:decide (0<=b)=true:=aF;by_cases h4:a<=4611686018427387903;·have d4:decide (a<=4611686018427387903)=true:=aF;obtain⟨r,hr⟩:∃r,decide (b<=4611686018427387903 -a)=r:=⟨_,aa⟩;have cA:aE (nW (a,b)=r):=hid (by grind[nW]);rw[cA.out];clear cA;go_enter OT,O0;go_wp2_with fail;go_quiet ((go_at_call 112;(first|exact CK (Iw _)|exact Fp (Iw _))));go_wp2;go_ret;exact⟨aa,aq.trans (ar.alloc _ _) (ar.drewN _ _)⟩
   .have d4:decide (a<=4611686018427387903)=false:=aF;rw[I9 (λh=>by have h1:=h.2.2;simp only at h1;omega)];go_enter OT,O0;go_wp2_with fail;go_quiet ((go_at_call 112;(first|exact CK (Iw _)|exact Fp (Iw _))));go_wp2;go_ret;exact⟨aa,aq.trans (ar.alloc _ _) (ar.drewN _ _)⟩
  .have d1:decide (0<=b)=false:=aF;rw[I9 (λh=>by have h1:=h.2.1;simp only at h1;omega)];go_enter OT,O0;go_wp2_with fail;go_quiet (fail);go_wp2;go_ret;exact⟨aa,aq.trans (ar.alloc _ _) (ar.drewN _ _)⟩
 .have d0:decide (0<=a)=false:=aF;rw[I9 (λh=>by have h1:=h.1;simp only at h1;omega)];go_enter OT,O0;go_wp2_with fail;go_quiet (fail);go_wp2;go_ret;exact⟨aa,aq.trans (ar.alloc _ _) (ar.drewN _ _)⟩
def xy{fn}{p:Tmp}{ty}(h:fn.results=#[.cell p ty])tmps P w:
 (results fn tmps).run P w=((asAddr (tmps.getD p undef)).run P w).andThen λa w₁=>(loadVar ty a).run P w₁:=by
 simp only[results,h];simp
def Lf{a b c d lo n}(h1:lo=max a c)(h2:n=min (a+b) (c+d) -max a c)(h3:max a c<min (a+b) (c+d)):gI (lo,n)=gI (kM (a,b) (c,d)):=by grind[kM]
def amY{a b c d}(h3:min (a+b) (c+d)<=max a c):gI (0,0)=gI (kM (a,b) (c,d)):=by grind[kM]
set_option maxHeartbeats 4000000 in
def aej(a b c d)w(h1:eD (a,b))(h2:eD (c,d)):
 aD ax 169 #[av #[J R a,J R b],av #[J R c,J R d]] w λe w'=>e=aA (gI (kM (a,b) (c,d)))/\aq w w':=by
 obtain⟨gn,a2,a3⟩:=h1;obtain⟨c1,c2,fF⟩:=h2;simp only at gn a2 a3 c1 c2 fF;go_enter func169,ntmps169;go_wp2;all_goals(try simp only[FU,Exit.then])
 all_goals first
  |(refine dn (v:=gI (a,a+b -a)) ?_ aa ⟨by rw[Lf (a:=a) (b:=b) (c:=c) (d:=d) (lo:=a) (n:=a+b -a) ae ae ae],aq.trans (ar.alloc _ _) (aq.trans (ar.alloc _ _) (ar.alloc _ _))⟩;rw[xy aa];go_simp;done)
  |(refine dn (v:=gI (a,c+d -a)) ?_ aa ⟨by rw[Lf (a:=a) (b:=b) (c:=c) (d:=d) (lo:=a) (n:=c+d -a) ae ae ae],aq.trans (ar.alloc _ _) (aq.trans (ar.alloc _ _) (ar.alloc _ _))⟩;rw[xy aa];go_simp;done)
  |(refine dn (v:=gI (c,a+b -c)) ?_ aa ⟨by rw[Lf (a:=a) (b:=b) (c:=c) (d:=d) (lo:=c) (n:=a+b -c) ae ae ae],aq.trans (ar.alloc _ _) (aq.trans (ar.alloc _ _) (ar.alloc _ _))⟩;rw[xy aa];go_simp;done)
  |(refine dn (v:=gI (c,c+d -c)) ?_ aa ⟨by rw[Lf (a:=a) (b:=b) (c:=c) (d:=d) (lo:=c) (n:=c+d -c) ae ae ae],aq.trans (ar.alloc _ _) (aq.trans (ar.alloc _ _) (ar.alloc _ _))⟩;rw[xy aa];go_simp;done)
  |(refine dn (v:=gI (0,0)) ?_ aa ⟨by rw[amY (a:=a) (b:=b) (c:=c) (d:=d) ae],aq.trans (ar.alloc _ _) (aq.trans (ar.alloc _ _) (ar.alloc _ _))⟩;rw[xy aa];go_simp;done)
def Ub(w:aM)b(x y ND UC)(h1:w.cell? ⟨b,0,af⟩=ab x)(h2:w.cell? ⟨b,1,af⟩=ab y):
 ((w.setCell ⟨b,0,af⟩ ND).setCell ⟨b,1,af⟩ UC).cell? ⟨b,0,af⟩=ab ND/\((w.setCell ⟨b,0,af⟩ ND).setCell ⟨b,1,af⟩ UC).cell? ⟨b,1,af⟩=ab UC:=by
 have gn:=aip w ⟨b,0,af⟩ ND aF;constructor;·grind[aio]
 .refine aip _ _ _ ?_;rw[aio];·grind
  .simp
def asI{a b c d lo hi}(h1:lo=max a c)(h2:hi=min (a+b) (c+d)):(if decide (hi -lo<1)=aB then gI (0,0)else gI (lo,hi -lo))=gI (kM (a,b) (c,d))/\(!decide (hi -lo<1))=meets (a,b) (c,d):=by grind[kM,meets]
set_option maxHeartbeats 4000000 in
def MT(a b c d)w(h1:eD (a,b))(h2:eD (c,d)):
 aD ax 202 #[av #[J R a,J R b],av #[J R c,J R d]] w λe w'=>e=aA (bg #[gI (kM (a,b) (c,d)),ak (meets (a,b) (c,d))])/\aq w w':=by
 obtain⟨gn,a2,a3⟩:=h1;obtain⟨c1,c2,fF⟩:=h2;simp only at gn a2 a3 c1 c2 fF
 have HB:aE (∀lo hi W (r:Bool),lo=max a c->hi=min (a+b) (c+d)->aD _ 279 _ W λe w'=>e=aA _/\aq W w'):=hid (λlo hi W r ka yE=>by have h:=ak2 lo hi 1 W ae ae ae ae _ aa;obtain⟨bB,b7⟩:=asI (a:=a) (b:=b) (c:=c) (d:=d) ka yE;rw[bB,b7]at h;exact h);generalize meets (a,b) (c,d)=r at*;generalize kM (a,b) (c,d)=o at*;obtain⟨fa,et⟩:=o
 have b9:aE (∀w',ar (λi=>i=w.heap.size+2) _ w'->w'.cell? _=ab _/\w'.cell? _=ab _/\w'.cell? _=ab (J R c)/\w'.cell? _=ab (J R d)):=hid (λw' hw'=>by have g1:=yj w (J R a) (J R b) 35;have g2:=yj (w.alloc (bc #[J R a,J R b] 35)) (J R c) (J R d) 35;rw[zn]at g2;have gh:=ar.alloc (F:=λi=>i=w.heap.size+2) (w.alloc (bc #[J R a,J R b] 35)) (bc #[J R c,J R d] 35);have fP:=ar.alloc (F:=λi=>i=w.heap.size+2) ((w.alloc (bc #[J R a,J R b] 35)).alloc (bc #[J R c,J R d] 35)) (bc #[J R 0,J R 0] 35);have iL:=(gh.trans fP (λ_ _ h=>h)).trans hw' (λ_ _ h=>h);have p6:=fP.trans hw' (λ_ _ h=>h);exact⟨iL.cell g1.1 (by show¬w.heap.size=w.heap.size+2;omega),iL.cell g1.2 (by show¬w.heap.size=w.heap.size+2;omega),p6.cell g2.1 (by show¬w.heap.size+1=w.heap.size+2;omega),p6.cell g2.2 (by show¬w.heap.size+1=w.heap.size+2;omega)⟩)
 have Gk:aE (∀w',ar (λ_=>False) _ w'->w'.frozen? ⟨w.heap.size+1+1,0,af⟩=au/\w'.frozen? ⟨w.heap.size+1+1,1,af⟩=au/\w'.cell? ⟨w.heap.size+1+1,0,af⟩=ab (J R 0)/\w'.cell? ⟨w.heap.size+1+1,1,af⟩=ab (J R 0)):=hid (λw' hw'=>by have g3:=fe ((w.alloc (bc #[J R a,J R b] 35)).alloc (bc #[J R c,J R d] 35)) (bc #[J R 0,J R 0] 35);rw[zn,zn]at g3;have g4:=hw'.heap g3 (λh=>h);exact⟨by simp[uR,g4],by simp[uR,g4],by simp[zm,g4],by simp[zm,g4]⟩);go_enter func202,ntmps202;go_wp2_with fail;have Dw:aE (aq w (((w.alloc (bc #[J R a,J R b] 35)).alloc (bc #[J R c,J R d] 35)).alloc (bc #[J R 0,J R 0] 35))):=hid (aq.trans (ar.alloc _ _) (aq.trans (ar.alloc _ _) (ar.alloc _ _)));generalize ((w.alloc (bc #[J R a,J R b] 35)).alloc (bc #[J R c,J R d] 35)).alloc (bc #[J R 0,J R 0] 35)=ao at*;generalize Lp:w.heap.size=B at*;have kU:aE (∀w',ar (λi=>i=B+1+1) ao w'->w'.cell? _=ab _/\w'.cell? _=ab _/\w'.cell? _=ab _/\w'.cell? _=ab _):=hid b9.out;have xZ:aE (∀w',aq ao w'->w'.frozen? _=au/\w'.frozen? _=au/\w'.cell? _=ab _/\w'.cell? _=ab _):=hid Gk.out
 have Km:aE (∀w',aq ao w'->∀u v,((w'.setCell _ u).setCell _ v).cell? _=ab _/\((w'.setCell _ u).setCell _ v).cell? _=ab _/\((w'.setCell _ u).setCell _ v).cell? _=ab _/\((w'.setCell _ u).setCell _ v).cell? _=ab _):=hid (λw' h u v=>
  kU.out _ ((h.mono (G:=λi=>i=B+1+1) (λ_ _ h=>h.elim)).trans ((ar.setCell (F:=λi=>i=B+1+1) w' (p:=⟨_,0,af⟩) aa u).trans (ar.setCell (F:=λi=>i=B+1+1) _ (p:=⟨_,1,af⟩) aa v) (λ_ _ h=>h)) (λ_ _ h=>h)))
 have J':aE (∀w',aq ao w'->∀u v,aq w _):=hid (λw' h u v=>by have q:=((aq.trans Dw.out h).mono (G:=λi=>i=B+1+1) (λ_ _ h=>h.elim)).trans ((ar.setCell (F:=λi=>i=B+1+1) w' (p:=⟨_,0,af⟩) aa u).trans (ar.setCell (F:=λi=>i=B+1+1) _ (p:=⟨_,1,af⟩) aa v) (λ_ _ h=>h)) (λ_ _ h=>h);exact q.mono (λi hi h=>ae))
 have J3:aE (∀w',aq ao w'->((w'.setCell _ _).setCell _ _).cell? _=ab _/\((w'.setCell _ (J R fa)).setCell _ _).cell? _=ab (J R et)):=hid (λw' h=>by obtain⟨_,_,Au,n4⟩:=xZ.out w' h;exact Ub w' _ _ _ _ _ Au n4);clear b9 Gk;rcases(show a<c\/¬a<c by omega)with RT|RT<;>rcases(show c+d<a+b\/¬c+d<a+b by omega)with hab|hab
 .go_region_held3 (λw'=>w'.cell? ⟨B,0,af⟩=ab (J R a)/\w'.cell? ⟨B,1,af⟩=ab (J R b)/\w'.cell? ⟨B+1,0,af⟩=ab (J R c)/\w'.cell? ⟨B+1,1,af⟩=ab (J R d))
   (first
     |exact kU.out _ (ar.drew _)
     |exact kU.out _ (hc.mono (λ_ _ h=>h.elim))
     |exact Km.out _ hc _ _
     |exact kU.out _ (hb.mono (λ_ _ h=>h.elim))
     |exact kU.out _ (ha.mono (λ_ _ h=>h.elim)))
   (first
     |(go_at_call 279;have b0:=HB.out (c) (c+d) pe aB ae ae;with_reducible refine b0.mono ?_;clear b0;rintro e wc ⟨rfl,hc0⟩;have hc:aq ao wc:=aq.trans hb hc0;obtain⟨qO,lB,Au,n4⟩:=xZ.out wc hc)
     |(go_at_call 117;have b0:=lN c d i' c1 c2 fF;with_reducible refine b0.mono ?_;clear b0;rintro e pe ⟨rfl,hb0⟩;have hb:aq ao pe:=aq.trans ha hb0)
     |(go_at_call 117;refine(lN a b _ gn a2 a3).mono ?_;rintro e i' ⟨rfl,ha0⟩;have ha:aq ao i':=aq.trans (ar.drew _) ha0))
  all_goals
   go_wp2;(try simp only[FU,Exit.then]);obtain⟨gH,D1⟩:=J3.out wc hc;refine dn (v:=bg #[_,_]) ?_ aa ⟨aa,J'.out wc hc _ _⟩;rw[Ba aa];go_simp
 .have aoP:=eq_false hab
  go_region_held3 (λw'=>w'.cell? ⟨B,0,af⟩=ab (J R a)/\w'.cell? ⟨B,1,af⟩=ab (J R b)/\w'.cell? ⟨B+1,0,af⟩=ab (J R c)/\w'.cell? ⟨B+1,1,af⟩=ab (J R d))
   (first
     |exact kU.out _ (ar.drew _)
     |exact kU.out _ (hc.mono (λ_ _ h=>h.elim))
     |exact Km.out _ hc _ _
     |exact kU.out _ (hb.mono (λ_ _ h=>h.elim))
     |exact kU.out _ (ha.mono (λ_ _ h=>h.elim)))
   (first
     |(go_at_call 279;have b0:=HB.out (c) (a+b) pe aB ae ae;with_reducible refine b0.mono ?_;clear b0;rintro e wc ⟨rfl,hc0⟩;have hc:aq ao wc:=aq.trans hb hc0;obtain⟨qO,lB,Au,n4⟩:=xZ.out wc hc)
     |(go_at_call 117;have b0:=lN c d i' c1 c2 fF;with_reducible refine b0.mono ?_;clear b0;rintro e pe ⟨rfl,hb0⟩;have hb:aq ao pe:=aq.trans ha hb0)
     |(go_at_call 117;refine(lN a b _ gn a2 a3).mono ?_;rintro e i' ⟨rfl,ha0⟩;have ha:aq ao i':=aq.trans (ar.drew _) ha0))
  all_goals
   go_wp2;(try simp only[FU,Exit.then]);obtain⟨gH,D1⟩:=J3.out wc hc;refine dn (v:=bg #[_,_]) ?_ aa ⟨aa,J'.out wc hc _ _⟩;rw[Ba aa];go_simp
 .have aoQ:=eq_false RT
  go_region_held3 (λw'=>w'.cell? ⟨B,0,af⟩=ab (J R a)/\w'.cell? ⟨B,1,af⟩=ab (J R b)/\w'.cell? ⟨B+1,0,af⟩=ab (J R c)/\w'.cell? ⟨B+1,1,af⟩=ab (J R d))
   (first
     |exact kU.out _ (ar.drew _)
     |exact kU.out _ (hc.mono (λ_ _ h=>h.elim))
     |exact Km.out _ hc _ _
     |exact kU.out _ (hb.mono (λ_ _ h=>h.elim))
     |exact kU.out _ (ha.mono (λ_ _ h=>h.elim)))
   (first
     |(go_at_call 279;have b0:=HB.out (a) (c+d) pe aB ae ae;with_reducible refine b0.mono ?_;clear b0;rintro e wc ⟨rfl,hc0⟩;have hc:aq ao wc:=aq.trans hb hc0;obtain⟨qO,lB,Au,n4⟩:=xZ.out wc hc)
     |(go_at_call 117;have b0:=lN c d i' c1 c2 fF;with_reducible refine b0.mono ?_;clear b0;rintro e pe ⟨rfl,hb0⟩;have hb:aq ao pe:=aq.trans ha hb0)
     |(go_at_call 117;refine(lN a b _ gn a2 a3).mono ?_;rintro e i' ⟨rfl,ha0⟩;have ha:aq ao i':=aq.trans (ar.drew _) ha0))
  all_goals
   go_wp2;(try simp only[FU,Exit.then]);obtain⟨gH,D1⟩:=J3.out wc hc;refine dn (v:=bg #[_,_]) ?_ aa ⟨aa,J'.out wc hc _ _⟩;rw[Ba aa];go_simp
 .have aoQ:=eq_false RT;have aoP:=eq_false hab
  go_region_held3 (λw'=>w'.cell? ⟨B,0,af⟩=ab (J R a)/\w'.cell? ⟨B,1,af⟩=ab (J R b)/\w'.cell? ⟨B+1,0,af⟩=ab (J R c)/\w'.cell? ⟨B+1,1,af⟩=ab (J R d))
   (first
     |exact kU.out _ (ar.drew _)
     |exact kU.out _ (hc.mono (λ_ _ h=>h.elim))
     |exact Km.out _ hc _ _
     |exact kU.out _ (hb.mono (λ_ _ h=>h.elim))
     |exact kU.out _ (ha.mono (λ_ _ h=>h.elim)))
   (first
     |(go_at_call 279;have b0:=HB.out (a) (a+b) pe aB ae ae;with_reducible refine b0.mono ?_;clear b0;rintro e wc ⟨rfl,hc0⟩;have hc:aq ao wc:=aq.trans hb hc0;obtain⟨qO,lB,Au,n4⟩:=xZ.out wc hc)
     |(go_at_call 117;have b0:=lN c d i' c1 c2 fF;with_reducible refine b0.mono ?_;clear b0;rintro e pe ⟨rfl,hb0⟩;have hb:aq ao pe:=aq.trans ha hb0)
     |(go_at_call 117;refine(lN a b _ gn a2 a3).mono ?_;rintro e i' ⟨rfl,ha0⟩;have ha:aq ao i':=aq.trans (ar.drew _) ha0))
  all_goals
   go_wp2;(try simp only[FU,Exit.then]);obtain⟨gH,D1⟩:=J3.out wc hc;refine dn (v:=bg #[_,_]) ?_ aa ⟨aa,J'.out wc hc _ _⟩;rw[Ba aa];go_simp
end Go.Proofs.YtcmhplknoglbkaaGreat
