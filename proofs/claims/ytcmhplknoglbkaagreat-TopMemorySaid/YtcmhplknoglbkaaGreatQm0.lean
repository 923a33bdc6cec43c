/- Part 0 of the proof of TopMemorySaid. -/
import Derived.WalkKit
import Derived.WalkSpells
import Derived.WalkLawsBesides
import Derived.Maps.RangeWalk
import Derived.OneCell
import Derived.BigQuiet
import Derived.Deep.QuietTactic
import Derived.Test.YtcmhplknoglbkaaGreatProg
import Derived.Deep.RegionHeld3
import Derived.Laws.ResultCell
set_option linter.all false
set_option maxRecDepth 100000
set_option maxHeartbeats 4000000
open Go.Proofs.Tryz
open Bool renaming false->ao,true->az
open Go renaming Calls->aD,Value->aP,World->aQ,bodyPost_ret->c',cell_of_row->fE,heap_alloc_new->fL,results_cell_tmp->BT,run_underlying->gN
open Go.ChangeMaps renaming heap_setBlock_other->DR,heap_setBlock_same->DS,modify_eq_set->ahX,setBlock->la
open Go.Ending renaming returned->aB
open Go.Exit renaming inBlock->Gw
open Go.Instr renaming findKey->ah2,lookup->qQ,mapUpdate->DU
open Go.IntKind renaming i64->R
open Go.MapKept renaming run_getObj_map->zD,run_setObj_map->GA,stamped_iff->O2
open Go.Obj renaming cells->bo,map->iU
open Go.Proofs.Tryz renaming func115->O5,func96->Pb,ntmps115->Pd,ntmps96->Ph,prog->ax
open Go.Result renaming andThen->KJ
open Go.RowKit renaming Hid->aE
open Go.Value renaming agg->ar,bool->ai,int->J,tuple->bn
open Go.World renaming cell?->zH,cell?_setCell_other->aka,cell?_setCell_same'->akb,frozen?->wM,size_alloc->zI
open List renaming find?_cons->alP,mem_map->gP,pairwise_iff_getElem->mr,pairwise_map->yv
open Nat renaming le_refl->b9
open Option renaming none->af,some->ab
namespace Go.Proofs.YtcmhplknoglbkaaGreat
theorem aa{α:Sort _}{a:α}:a=a:=rfl
def ex{α : Sort _}(x : α): ∃ z, x = z := ⟨x, rfl⟩
def ad{p:Prop}(h:p:=by omega):p:=h
def aw{p:Prop}(h:p:=by kernel_rfl):p:=h
def bg{p:Prop}(h:p:=by simp):p:=h
def aS{p:Prop}(h:p:=by decide):p:=h
def bc{p:Prop}(h:p:=by rfl):p:=h
def aH{p:Prop}(h:p:=by grind):p:=h
section
open Go.RowKit Go.MapKept
open Go.ChangeMaps (setBlock heap_setBlock_same heap_setBlock_other)
open Go.Maps (Keyed)
theorem hid{p}(h:p):aE p:=h
def Dv{P f args}{w:aQ}{n v}(h:aD P f args (w.drewN n) λe w'=>e=aB v/\w.drewN n=w'):
 aD P f args (w.drewN n) λe Oe=>e=aB v/\∃m,Oe=w.drewN m:=
 h.mono λ_ _ ⟨he,hm⟩=>⟨he,n,hm.symm⟩
def FY{P f args}{w:aQ}{a n v}(h:aD P f args (w.drewN (a+n)) λe w'=>e=aB v/\w.drewN (a+n)=w'):
 aD P f args (w.drewN (a+n)) λe Oe=>e=aB v/\∃m,Oe=w.drewN (a+m):=
 h.mono λ_ _ ⟨he,hm⟩=>⟨he,n,hm.symm⟩
structure av (F:Nat->Prop) (w w':aQ):Prop where
 os:w'.os=w.os
 tape:w'.tape=w.tape
 output:w'.output=w.output
 size:w.heap.size<=w'.heap.size
 block:∀k,k<w.heap.size->¬F k->w'.heap[k]?=w.heap[k]?
section
variable {F G:Nat->Prop} {w w' a b c:aQ}
theorem av.refl F w:av F w w:=⟨rfl,rfl,rfl,b9 _,λ_ _ _=>rfl⟩
theorem av.mono(h:av F w w')(aqp:∀k,k<w.heap.size->F k->G k):av G w w':=⟨h.os,h.tape,h.output,h.size,λk hk hn=>h.block k hk (λhf=>hn (aqp k hk hf))⟩
theorem av.trans(h:av F a b)(k:av G b c)(fB:∀i,i<a.heap.size->G i->F i):av F a c:=
 ⟨k.os.trans h.os,k.tape.trans h.tape,k.output.trans h.output,Nat.le_trans h.size k.size,λi hi hn=>(k.block i (Nat.lt_of_lt_of_le hi h.size) (λhg=>hn (fB i hi hg))).trans (h.block i hi hn)⟩
def av.alloc w o:av F w (w.alloc o):=⟨rfl,rfl,rfl,bg,λk hk _=>Below.heap_alloc w o k hk⟩
def av.drew w:av F w w.drew:=⟨rfl,rfl,rfl,b9 _,λ_ _ _=>rfl⟩
def av.drewN w n:av F w (w.drewN n):=⟨rfl,rfl,rfl,b9 _,λ_ _ _=>rfl⟩
def av.axT(h:av F w.drew w'):av F w w':=⟨h.os,h.tape,h.output,h.size,h.block⟩
def av.of_grownBy{row}(h:w.grownBy w' row)(hr:∀k,row=ab k->F k\/w.heap.size<=k):av F w w':=
 ⟨h.os,h.tape,h.output,h.size,λk hk hn=>h.block k hk (λe=>aH)⟩
def av.Nw{B}(h:Below B w w')(kp:w.heap.size<=B):av F w w':=⟨h.os,h.tape,h.output,h.size,λk hk _=>h.block k ad⟩
theorem av.setCell w{p}(hp:F p.block)u:av F w (w.setCell p u):=
 ⟨rfl,rfl,rfl,bg,λk _ hn=>Below.heap_setCell w p u k (λe=>hn (e▸hp))⟩
theorem av.below{B}(h:av F w w')(kp:B<=w.heap.size)(hF:∀k,k<B->¬F k):Below B w w':=⟨h.os,h.tape,h.output,h.size,λk hk=>h.block k ad (hF k hk)⟩
theorem av.heap(h:av F w w'){k o}(hk:w.heap[k]?=ab o)(hn:¬F k):w'.heap[k]?=ab o:=
 (h.block k (Array.getElem?_eq_some_iff.1 hk).1 hn).trans hk
theorem av.cell(h:av F w w'){p v}(hp:w.cell? p=ab v)(hn:¬F p.block):w'.cell? p=ab v:=
 (World.cell?_of_block (w:=w) (h.block p.block (World.block_lt_of_cell? w p hp) hn)).trans hp
end
abbrev au(w w':aQ):Prop:=av (λ_=>False) w w'
def au.to{F w w'}(h:au w w'):av F w w':=h.mono (λ_ _ hf=>hf.elim)
theorem au.below{w w'}(h:au w w'):Below w.heap.size w w':=by grind[av.below]
theorem au.trans{a b c}(h:au a b)(k:au b c):au a c:=by grind[av.trans]
def dA(w:aQ)(A:Option Addr)(xs:List Int):Prop:=
 0<xs.length->∃b off,A=ab ⟨b,off,af⟩/\∀j,j<xs.length->w.cell? ⟨b,off+j,af⟩=ab (J R (xs[j]?.getD 0))
theorem dA.nil{w A}:dA w A []:=λh=>absurd h bg
def dA.only{F w w' A xs}(h:dA w A xs)(k:av F w w')(hn:∀b off,A=ab ⟨b,off,af⟩->¬F b):dA w' A xs:=λhp=>by obtain⟨b,off,rfl,hc⟩:=h hp;exact⟨b,_,rfl,λj hj=>k.cell (hc j hj) (hn b _ rfl)⟩
def dA.aI{w w' A xs}(h:dA w A xs)(k:au w w'):dA w' A xs:=h.only k (λ_ _ _ hf=>hf)
theorem dA.ot{w}{base e n c:Nat}{A xs}(h:w.ownsRow base e 1 (.slice A n c) n (xs.map (J R))):dA w A xs:=λhp=>by
 have hn:=by simpa using h.1.symm
 rcases h.2 with⟨hv,h0⟩|⟨g,cap,cur,hv,hb,hg,j9,hcm,hcs,ht⟩;·omega
 .injection hv with h1 h2 h3;subst h1;refine⟨g,0,rfl,λj hj=>?_⟩;have hc:=h.cells (g:=g) rfl j (J R (xs[j]?.getD 0)) aH;grind[Addr.add]
def kU(w:aQ)(A:Option Addr)(E:List (Int×Int)):Prop:=
 0<E.length->∃b off,A=ab ⟨b,off,af⟩/\∀j,j<E.length->w.cell? ⟨b,off+j*2,af⟩=ab (J R (E[j]?.getD (0,0)).1)/\w.cell? ⟨b,off+j*2+1,af⟩=ab (J R (E[j]?.getD (0,0)).2)
def kU.only{F w w' A E}(h:kU w A E)(k:av F w w')(hn:∀b off,A=ab ⟨b,off,af⟩->¬F b):kU w' A E:=λhp=>by obtain⟨b,off,rfl,hc⟩:=h hp;exact⟨b,_,rfl,λj hj=>⟨k.cell (hc j hj).1 (hn b _ rfl),k.cell (hc j hj).2 (hn b _ rfl)⟩⟩
def kU.aI{w w' A E}(h:kU w A E)(k:au w w'):kU w' A E:=h.only k (λ_ _ _ hf=>hf)
section
variable {fv:Type} [DecidableEq fv]
structure sH (P:Program) (k:TypeId) (enc:fv->aP) (ok:fv->Prop):Prop where
 keyed:Keyed P k
 reads:∀{x},ok x->∃l,keyOf P k (enc x)=ab l
 inj:∀{x y},enc x=enc y->x=y
def d'(w:aQ)(b:Nat)(enc:fv->aP)(ok:fv->Prop)(bp:List (fv×aP)):Prop:=
 ∃es clock,w.heap[b]?=ab (iU es clock)/\Stamped es clock/\es.size<=maxLen/\es.toList.map (λe=>(e.key,e.val))=bp.map (λp=>(enc p.1,p.2))/\∀p∈bp,ok p.1
def ej(bp:List (fv×aP))(x:fv):Option Value:=(bp.find? (λp=>decide (p.1=x))).map (·.2)
def so(bp:List (fv×aP))(x:fv):Bool:=bp.any (λp=>decide (p.1=x))
def kb(bp:List (fv×aP))(x:fv)(v:aP):List (fv×aP):=
 if so bp x then bp.map (λp=>if p.1=x then(x,v)else p)else bp++[(x,v)]
def AW(bp:List (fv×aP))(x:fv):List (fv×aP):=bp.filter (λp=>!decide (p.1=x))
variable {P:Program} {k:TypeId} {enc:fv->aP} {ok:fv->Prop} {w w':aQ} {b:Nat} {bp:List (fv×aP)}
omit [DecidableEq fv]in
def d'.lt(h:d' w b enc ok bp):b<w.heap.size:=by obtain⟨es,clock,hb,_⟩:=h;grind
omit [DecidableEq fv]in
def d'.only{F}(h:d' w b enc ok bp)(k:av F w w')(hn:¬F b):d' w' b enc ok bp:=by obtain⟨es,clock,hb,r⟩:=h;exact⟨es,_,k.heap hb hn,r⟩
omit [DecidableEq fv]in
def d'.made(w:aQ)enc(ok:fv->Prop):d' (w.alloc (iU #[] 0)) w.heap.size enc ok []:=
 ⟨#[],0,(MapKept.heap_alloc w _).1,stamped_empty 0,bg,bg,bg⟩
theorem Np{bp}{x:fv}:ej bp x=af↔∀p∈bp,p.1≠x:=by simp[ej]
theorem sn{bp}{x:fv}{v}(h:ej bp x=ab v):(x,v)∈bp:=by
 unfold ej at h;cases hf:bp.find? (λp=>decide (p.1=x))with
 |none=>grind
 |some p=>grind
theorem IX{bp}{x:fv}:so bp x=az↔∃p∈bp,p.1=x:=by simp[so]
theorem IY{bp}{x:fv}:so bp x=(ej bp x).isSome:=by grind[so,ej]
omit [DecidableEq fv]in
def d'.nodup(h:d' w b enc ok bp):bp.Pairwise (λp q=>p.1≠q.1):=by obtain⟨es,clock,_,hs,_,he,_⟩:=h;have h3:=((O2 es _).1 hs).2.2;have h4:(es.toList.map (λe=>(e.key,e.val))).Pairwise (λp q=>p.1≠q.1):=yv.2 h3;rw[he,yv]at h4;exact h4.imp (λhne e=>hne (by rw[e]))
def xw{bp}(hd:bp.Pairwise (λp q=>p.1≠q.1)){x:fv}{v}(h:(x,v)∈bp):ej bp x=ab v:=by
 induction bp with
 |nil=>grind
 |cons p r cn=>grind[List.pairwise_cons,ej]
theorem TB bp(x:fv)v y:ej (kb bp x v) y=if y=x then ab v else ej bp y:=by
 unfold kb;by_cases hh:so bp x=az
 .rw[if_pos hh];unfold ej;induction bp with
  |nil=>grind[so]
  |cons p r cn=>
   rw[List.map_cons,alP,alP];by_cases hp:p.1=x
   .rw[if_pos hp];by_cases hy:y=x;·grind
    .have:¬x=y:=λe=>hy e.symm;have h2:¬p.1=y:=λe=>hy (e▸hp);simp only[this,decide_false,h2,if_neg hy];by_cases hr:so r x=az;·grind
     .have:r.map (λp=>if p.1=x then(x,v)else p)=r:=by
       conv=>rhs;rw[<-List.map_id r]
       grind[List.map_congr_left,IX]
      rw[this]
   grind[IX]
 grind[ej,IX]
theorem AY{bp}{x:fv}{v p}(h:p∈kb bp x v):p=(x,v)\/(p∈bp/\p.1≠x):=by grind[kb,IX]
def ad1 bp(x:fv)v:(kb bp x v).length<=bp.length+1:=by grind[kb]
theorem Nq{bp}{x:fv}v(h:so bp x=ao):kb bp x v=bp++[(x,v)]:=by grind[kb]
def d'.find(C:sH P k enc ok)(h:d' w b enc ok bp){x}(hx:ok x):∃es clock,w.heap[b]?=ab (iU es clock)/\Stamped es clock/\es.size=bp.length/\es.toList.map (λe=>(e.key,e.val))=bp.map (λp=>(enc p.1,p.2))/\
 (((∀w1:aQ,(ah2 k (enc x) es.toList).run P w1=.ok af w1)/\(∀e∈es.toList,e.key≠enc x)/\ej bp x=af)\/
   ∃j e,(∀w1:aQ,(ah2 k (enc x) es.toList).run P w1=.ok (ab (j,e.val)) w1)/\es[j]?=ab e/\e.key=enc x/\ej bp x=ab e.val/\bp[j]?=ab (x,e.val)):=by
 have ey:=h.nodup;obtain⟨es,clock,hb,hs,hz,he,c3⟩:=h;obtain⟨Nk,hlx⟩:=C.reads hx;have hlen:=by have:=congrArg List.length he;simpa using this
 have SA:∀e∈es.toList,∃l,keyOf P k e.key=ab l:=λe xg=>by have:(e.key,e.val)∈es.toList.map (λe=>(e.key,e.val)):=gP.2 ⟨e,xg,rfl⟩;rw[he]at this;obtain⟨p,hp,vX⟩:=gP.1 this;simp at vX;rw[<-vX.1];exact C.reads (c3 p hp)
 refine⟨es,_,hb,hs,hlen,he,?_⟩;rcases C.keyed.find w hlx es.toList SA with⟨h1,h2⟩|⟨j,dE,h1,h2,h3⟩
 .refine .inl ⟨λw1=>?_,h2,Np.2 (λp hp SV=>?_)⟩
  .rcases C.keyed.find w1 hlx es.toList SA with⟨RV,_⟩|⟨j,dE,_,hj,h3⟩;·omega
   grind
  .have:(enc p.1,p.2)∈bp.map (λp=>(enc _,p.2)):=gP.2 ⟨p,hp,rfl⟩;grind
 .have hk:bp[j]?=ab (x,dE.val):=by
   have h5:(es.toList.map (λe=>(e.key,e.val)))[j]?=ab (dE.key,dE.val):=aH;rw[he,List.getElem?_map]at h5;cases hq:bp[j]? with
   |none=>grind
   |some q=>
    rw[hq]at h5;simp at h5;rw[h3]at h5;have bE:=C.inj h5.1;rw[<-bE,<-h5.2]
  refine .inr ⟨j,dE,λw1=>?_,aH,h3,xw ey (List.mem_of_getElem? hk),hk⟩;rcases C.keyed.find w1 hlx es.toList SA with⟨_,hno⟩|⟨aBW,ko,RV,RX,RY⟩;·grind
  grind[O2,mr]
def d'.lookup{t e}(C:sH P k enc ok)(ht:P.underlying t=ab (.map k e)){z}(hz:∀w:aQ,(zeroValue e).run P w=.ok z w)(h:d' w b enc ok bp){x}(hx:ok x):
 (qQ t (.map (ab b)) (enc x) ao).run P w=.ok ((ej bp x).getD z) w/\
 (qQ t (.map (ab b)) (enc x) az).run P w=.ok (bn #[(ej bp x).getD z,ai (ej bp x).isSome]) w:=by
 obtain⟨Nk,hlx⟩:=C.reads hx;obtain⟨es,clock,hb,hs,hsz,he,hf⟩:=h.find C hx;rcases hf with⟨h1,h2,h3⟩|⟨j,dE,h1,h2,h3,h4,h5⟩;·constructor<;>simp[qQ,gN ht,zD hb,C.keyed.check w _ hlx,h1,hz w,KJ,h3]
 .constructor<;>simp[qQ,gN ht,zD hb,C.keyed.check w _ hlx,h1,KJ,h4]
def d'.update{t e}(C:sH P k enc ok)(ht:P.underlying t=ab (.map k e))(h:d' w b enc ok bp)(hn:bp.length<maxLen){x}(hx:ok x)v:
 ∃w',(DU t (.map (ab b)) (enc x) v).run P w=.ok () w'/\d' w' b enc ok (kb bp x v)/\w.grownBy w' (ab b)/\w'.heap.size=w.heap.size:=by
 obtain⟨Nk,hlx⟩:=C.reads hx;have ey:=h.nodup;have c3:∀p∈bp,ok p.1:=by obtain⟨_,_,_,_,_,_,c3⟩:=h;exact c3
 obtain⟨es,clock,hb,hs,hsz,he,hf⟩:=h.find C hx;rcases hf with⟨h1,h2,h3⟩|⟨j,dE,h1,h2,h3,h4,h5⟩
 .have hh:so bp x=false:=by grind[IY]
  refine⟨la w b (iU (es.push ⟨enc x,v,clock⟩) (clock+1)),?_,⟨_,_,DS hb _,stamped_push hs h2,aH,?_,?_⟩,⟨rfl,rfl,rfl,by simp[la],λi _ hi=>DR hb _ (λe=>hi (by rw[e]))⟩,by simp[la]⟩;·simp[DU,gN ht,zD hb,C.keyed.check w ao hlx,h1,GA _ hb,la]
  .grind[Nq]
  .intro p hp;rcases AY hp with rfl|⟨hp,_⟩;·omega
   .grind
 .have hh:so bp x=true:=by grind[IY]
  have Sz:∀ko,es[j]?=ab ko->({ko with key:=enc x,val:=v}:MapEntry).key=ko.key:=λko CP=>by grind
  refine⟨la w b (iU (es.modify j (λko=>{ko with key:=enc x,val:=v})) clock),?_,⟨_,_,DS hb _,stamped_modify hs _ _ (λ_ _=>rfl) (λko _ CP=>Sz ko CP),aH,?_,?_⟩,⟨rfl,rfl,rfl,by simp[la],λi _ hi=>DR hb _ (λe=>hi (by rw[e]))⟩,by simp[la]⟩;·simp[DU,gN ht,zD hb,C.keyed.check w ao hlx,h1,h2,h3,C.keyed.stays w hlx,GA _ hb,la]
  .have hj:es.toList[j]?=ab dE:=aH;rw[Array.toList_modify,ahX _ _ _ _ hj,List.map_set,he];unfold kb;rw[if_pos hh];apply List.ext_getElem?;grind[mr]
  .intro p hp;rcases AY hp with rfl|⟨hp,_⟩;·omega
   .grind
def JD {t e ops rest o a Q} (hg:o.guard=af) (m x v) (hop:o.op=Op.mapUpdate t m x v)
 (C:sH P k enc ok) (ht:P.underlying t=ab (.map k e)) (h:d' w b enc ok bp) (hn:bp.length<maxLen) (hm:a.eval m=.map (ab b)) {y} (hy:ok y) (hx:a.eval x=enc y) val (hv:a.eval v=val)
 (hK:∀w',d' w' b enc ok (kb bp y val)->w.grownBy w' (ab b)->w'.heap.size=w.heap.size->wpList P ops Q rest (a.put o.dst undef) w'):wpList P ops Q (o::rest) a w:=by
 refine wpList_plain hg λyt hK'=>?_;obtain⟨w',hrun,e0,fJ,kt⟩:=h.update C ht hn hy val;unfold Oper.wp;simp[execOp,hop,hm,hx,hv,hrun];exact hK' _ _ (hK w' e0 fJ kt)
end
end
open Go.RowKit Go.MapKept
def cO(x:Int):Prop:=-9223372036854775808<=x/\x<=9223372036854775807
def rA(e:Int×Int):Prop:=cO e.1/\cO e.2
def eY(e:Int×Int):Prop:=0<=e.1/\0<=e.2/\e.1+e.2<=4611686018427387903
abbrev gT(e:Int×Int):Value:=ar #[J R e.1,J R e.2]
def me(a b:Int×Int):Int×Int:=if max a.1 b.1<min (a.1+a.2) (b.1+b.2)then(max a.1 b.1,min (a.1+a.2) (b.1+b.2) -max a.1 b.1)else(0,0)
def meets(a b:Int×Int):Bool:=decide (max a.1 b.1<min (a.1+a.2) (b.1+b.2))
def yH(w:aQ)(x y)t:(w.alloc (bo #[x,y] t)).cell? ⟨w.heap.size,0,af⟩=ab x/\(w.alloc (bo #[x,y] t)).cell? ⟨w.heap.size,1,af⟩=ab y:=
 ⟨fE _ _ 0 _ _ _ (fL w _),fE _ _ 1 _ _ _ (fL w _)⟩
def l1(a b)w(h1:0<=a)(h2:0<=b)(h3:a+b<=4611686018427387903):
 aD ax 117 #[ar #[J R a,J R b]] w λe w'=>e=aB (J R (a+b))/\au w w':=by
 go_enter func117,ntmps117;go_wp2;go_ret;exact⟨aa,av.alloc _ _⟩
def lE(e:Int×Int):Bool:=decide (0<=e.1)&&(decide (0<=e.2)&&decide (e.1+e.2<=4611686018427387903))
theorem Gd{e}:lE e=az↔eY e:=by simp[lE,eY]
def Jy{a b}(h:¬eY (a,b)):lE (a,b)=false:=by grind[Gd]
def agP(a b)w(ha:cO a)(hb:cO b):
 aD ax 115 #[ar #[J R a,J R b]] w λe w'=>e=aB (ai (lE (a,b)))/\au w w':=by
 obtain⟨ha1,ha2⟩:=ha;obtain⟨hb1,hb2⟩:=hb;by_cases h0:a<0\/b<0
 .rw[Jy (λh=>by have h1:=h.1;have h2:=h.2.1;simp only at h1 h2;omega)];by_cases hle:a<=b;·have h1:a<0:=ad;clear h0;go_enter O5,Pd;go_wp2;go_ret;exact⟨aa,av.alloc _ _⟩
  .have h1:b<0:=ad;clear h0;go_enter O5,Pd;go_wp2;go_ret;exact⟨aa,av.alloc _ _⟩
 .have Fh:0<=a:=ad;have oZ:0<=b:=ad;by_cases h4:4611686018427387903<a;·rw[Jy (λh=>by have h1:=h.2.2;simp only at h1;omega)];have h5:decide (a<=4611686018427387903)=false:=aH;clear h0;go_enter O5,Pd;go_wp2;all_goals(go_ret;exact⟨aa,av.alloc _ _⟩)
  .have h5:decide (a<=4611686018427387903)=true:=aH;have h6:0<=a:=ad;have h7:a<=4611686018427387903:=ad;obtain⟨r,hr⟩:∃r,decide (b<=4611686018427387903 -a)=r:=⟨_,aa⟩;have cJ:aE (lE (a,b)=r):=hid (by grind[lE]);rw[cJ.out];clear h0 h4 cJ;go_enter O5,Pd;go_wp2;all_goals(go_ret;exact⟨aa,av.alloc _ _⟩)
def FJ w:aD ax 112 #[] w λe w'=>e=aB (J R 4611686018427387903)/\w=w':=by go_enter func112,ntmps112;go_wp2;go_ret;exact⟨aa,aa⟩
def am0(lo hi least)w(h1:-4611686018427387904<=lo)(h2:lo<=4611686018427387903)(h3:-4611686018427387904<=hi)(h4:hi<=4611686018427387903)r(hr:decide (hi -lo<least)=r):
 aD ax 279 #[J R lo,J R hi,J R least] w λe w'=>e=aB (bn #[if r=az then gT (0,0)else gT (lo,hi -lo),ai (!r)])/\au w w':=by
 cases r
 all_goals
  go_enter func279,ntmps279;go_wp2;(try simp only[Gw,Exit.then]);refine c' (v:=bn #[_,_]) ?_ aa ⟨aa,av.alloc _ _⟩;rw[BT aa];go_simp
def aa3(a b at_)w(h:eY (a,b))r(hr:decide (a<=at_/\at_<a+b)=r):
 aD ax 244 #[ar #[J R a,J R b],J R at_] w λe w'=>e=aB (ai r)/\au w w':=by
 obtain⟨h1,h2,h3⟩:=h;simp only at h1 h2 h3;by_cases h0:a<=at_;·have h4:decide (a<=at_)=true:=aH;have h5:decide (at_<a+b)=r:=aH;clear hr h0;go_enter Tryz.func244,Tryz.ntmps244;go_wp2;go_ret;exact⟨aa,av.alloc _ _⟩
 .have h4:decide (a<=at_)=false:=aH;obtain rfl:r=false:=aH;clear hr h0;go_enter Tryz.func244,Tryz.ntmps244;go_wp2;go_ret;exact⟨aa,av.alloc _ _⟩
def NU(a b)w(ha:cO a)(hb:cO b):
 aD ax 96 #[ar #[J R a,J R b]] w λe w'=>e=aB (ai (lE (a,b)))/\au w w':=by
 obtain⟨ha1,ha2⟩:=ha;obtain⟨hb1,hb2⟩:=hb;by_cases h0:0<=a
 .have d0:decide (0<=a)=true:=aH;by_cases h1:0<=b
  .have d1:decide (0<=b)=true:=aH;by_cases h4:a<=4611686018427387903;·have d4:decide (a<=4611686018427387903)=true:=aH;obtain⟨r,hr⟩:∃r,decide (b<=4611686018427387903 -a)=r:=⟨_,aa⟩;have cJ:aE (lE (a,b)=r):=hid (by grind[lE]);rw[cJ.out];clear cJ;go_enter Pb,Ph;go_wp2_with fail;go_quiet ((go_at_call 112;(first|exact Dv (FJ _)|exact FY (FJ _))));go_wp2;go_ret;exact⟨aa,au.trans (av.alloc _ _) (av.drewN _ _)⟩
   .have d4:decide (a<=4611686018427387903)=false:=aH;rw[Jy (λh=>by have h1:=h.2.2;simp only at h1;omega)];go_enter Pb,Ph;go_wp2_with fail;go_quiet ((go_at_call 112;(first|exact Dv (FJ _)|exact FY (FJ _))));go_wp2;go_ret;exact⟨aa,au.trans (av.alloc _ _) (av.drewN _ _)⟩
  .have d1:decide (0<=b)=false:=aH;rw[Jy (λh=>by have h1:=h.2.1;simp only at h1;omega)];go_enter Pb,Ph;go_wp2_with fail;go_quiet (fail);go_wp2;go_ret;exact⟨aa,au.trans (av.alloc _ _) (av.drewN _ _)⟩
 .have d0:decide (0<=a)=false:=aH;rw[Jy (λh=>by have h1:=h.1;simp only at h1;omega)];go_enter Pb,Ph;go_wp2_with fail;go_quiet (fail);go_wp2;go_ret;exact⟨aa,au.trans (av.alloc _ _) (av.drewN _ _)⟩
def xH{fn}{p:Tmp}{ty}(h:fn.results=#[.cell p ty])tmps P w:
 (results fn tmps).run P w=((asAddr (tmps.getD p undef)).run P w).andThen λa w₁=>(loadVar ty a).run P w₁:=by
 simp only[results,h];simp
def L8{a b c d lo n}(h1:lo=max a c)(h2:n=min (a+b) (c+d) -max a c)(h3:max a c<min (a+b) (c+d)):gT (lo,n)=gT (me (a,b) (c,d)):=by grind[me]
def ao4{a b c d}(h3:min (a+b) (c+d)<=max a c):gT (0,0)=gT (me (a,b) (c,d)):=by grind[me]
set_option maxHeartbeats 4000000 in
def av0(a b c d)w(h1:eY (a,b))(h2:eY (c,d)):
 aD ax 169 #[ar #[J R a,J R b],ar #[J R c,J R d]] w λe w'=>e=aB (gT (me (a,b) (c,d)))/\au w w':=by
 obtain⟨fM,a2,a3⟩:=h1;obtain⟨c1,c2,dx⟩:=h2;simp only at fM a2 a3 c1 c2 dx;go_enter func169,ntmps169;go_wp2;all_goals(try simp only[Gw,Exit.then])
 all_goals first
  |(refine c' (v:=gT (a,a+b -a)) ?_ aa ⟨by rw[L8 (a:=a) (b:=b) (c:=c) (d:=d) (lo:=a) (n:=a+b -a) ad ad ad],au.trans (av.alloc _ _) (au.trans (av.alloc _ _) (av.alloc _ _))⟩;rw[xH aa];go_simp;done)
  |(refine c' (v:=gT (a,c+d -a)) ?_ aa ⟨by rw[L8 (a:=a) (b:=b) (c:=c) (d:=d) (lo:=a) (n:=c+d -a) ad ad ad],au.trans (av.alloc _ _) (au.trans (av.alloc _ _) (av.alloc _ _))⟩;rw[xH aa];go_simp;done)
  |(refine c' (v:=gT (c,a+b -c)) ?_ aa ⟨by rw[L8 (a:=a) (b:=b) (c:=c) (d:=d) (lo:=c) (n:=a+b -c) ad ad ad],au.trans (av.alloc _ _) (au.trans (av.alloc _ _) (av.alloc _ _))⟩;rw[xH aa];go_simp;done)
  |(refine c' (v:=gT (c,c+d -c)) ?_ aa ⟨by rw[L8 (a:=a) (b:=b) (c:=c) (d:=d) (lo:=c) (n:=c+d -c) ad ad ad],au.trans (av.alloc _ _) (au.trans (av.alloc _ _) (av.alloc _ _))⟩;rw[xH aa];go_simp;done)
  |(refine c' (v:=gT (0,0)) ?_ aa ⟨by rw[ao4 (a:=a) (b:=b) (c:=c) (d:=d) ad],au.trans (av.alloc _ _) (au.trans (av.alloc _ _) (av.alloc _ _))⟩;rw[xH aa];go_simp;done)
def Uu(w:aQ)b(x y Oi U1)(h1:w.cell? ⟨b,0,af⟩=ab x)(h2:w.cell? ⟨b,1,af⟩=ab y):
 ((w.setCell ⟨b,0,af⟩ Oi).setCell ⟨b,1,af⟩ U1).cell? ⟨b,0,af⟩=ab Oi/\((w.setCell ⟨b,0,af⟩ Oi).setCell ⟨b,1,af⟩ U1).cell? ⟨b,1,af⟩=ab U1:=by
 have fM:=akb w ⟨b,0,af⟩ Oi aH;constructor;·grind[aka]
 .refine akb _ _ _ ?_;rw[aka];·grind
  .simp
def auD{a b c d lo hi}(h1:lo=max a c)(h2:hi=min (a+b) (c+d)):(if decide (hi -lo<1)=az then gT (0,0)else gT (lo,hi -lo))=gT (me (a,b) (c,d))/\(!decide (hi -lo<1))=meets (a,b) (c,d):=by grind[me,meets]
set_option maxHeartbeats 4000000 in
def ND(a b c d)w(h1:eY (a,b))(h2:eY (c,d)):
 aD ax 202 #[ar #[J R a,J R b],ar #[J R c,J R d]] w λe w'=>e=aB (bn #[gT (me (a,b) (c,d)),ai (meets (a,b) (c,d))])/\au w w':=by
 obtain⟨fM,a2,a3⟩:=h1;obtain⟨c1,c2,dx⟩:=h2;simp only at fM a2 a3 c1 c2 dx
 have HB:aE (∀lo hi W (r:Bool),lo=max a c->hi=min (a+b) (c+d)->aD _ 279 _ W λe w'=>e=aB _/\au W w'):=hid (λlo hi W r ks y0=>by have h:=am0 lo hi 1 W ad ad ad ad _ aa;obtain⟨bE,cr⟩:=auD (a:=a) (b:=b) (c:=c) (d:=d) ks y0;rw[bE,cr]at h;exact h);generalize meets (a,b) (c,d)=r at*;generalize me (a,b) (c,d)=o at*;obtain⟨gC,eZ⟩:=o
 have bJ:aE (∀w',av (λi=>i=w.heap.size+2) _ w'->w'.cell? _=ab _/\w'.cell? _=ab _/\w'.cell? _=ab (J R c)/\w'.cell? _=ab (J R d)):=hid (λw' hw'=>by have g1:=yH w (J R a) (J R b) 35;have g2:=yH (w.alloc (bo #[J R a,J R b] 35)) (J R c) (J R d) 35;rw[zI]at g2;have c8:=av.alloc (F:=λi=>i=w.heap.size+2) (w.alloc (bo #[J R a,J R b] 35)) (bo #[J R c,J R d] 35);have c4:=av.alloc (F:=λi=>i=w.heap.size+2) ((w.alloc (bo #[J R a,J R b] 35)).alloc (bo #[J R c,J R d] 35)) (bo #[J R 0,J R 0] 35);have iR:=(c8.trans c4 (λ_ _ h=>h)).trans hw' (λ_ _ h=>h);have qB:=c4.trans hw' (λ_ _ h=>h);exact⟨iR.cell g1.1 (by show¬w.heap.size=w.heap.size+2;omega),iR.cell g1.2 (by show¬w.heap.size=w.heap.size+2;omega),qB.cell g2.1 (by show¬w.heap.size+1=w.heap.size+2;omega),qB.cell g2.2 (by show¬w.heap.size+1=w.heap.size+2;omega)⟩)
 have GW:aE (∀w',av (λ_=>False) _ w'->w'.frozen? ⟨w.heap.size+1+1,0,af⟩=ao/\w'.frozen? ⟨w.heap.size+1+1,1,af⟩=ao/\w'.cell? ⟨w.heap.size+1+1,0,af⟩=ab (J R 0)/\w'.cell? ⟨w.heap.size+1+1,1,af⟩=ab (J R 0)):=hid (λw' hw'=>by have g3:=fL ((w.alloc (bo #[J R a,J R b] 35)).alloc (bo #[J R c,J R d] 35)) (bo #[J R 0,J R 0] 35);rw[zI,zI]at g3;have g4:=hw'.heap g3 (λh=>h);exact⟨by simp[wM,g4],by simp[wM,g4],by simp[zH,g4],by simp[zH,g4]⟩);go_enter func202,ntmps202;go_wp2_with fail;have D6:aE (au w (((w.alloc (bo #[J R a,J R b] 35)).alloc (bo #[J R c,J R d] 35)).alloc (bo #[J R 0,J R 0] 35))):=hid (au.trans (av.alloc _ _) (au.trans (av.alloc _ _) (av.alloc _ _)));generalize ((w.alloc (bo #[J R a,J R b] 35)).alloc (bo #[J R c,J R d] 35)).alloc (bo #[J R 0,J R 0] 35)=aq at*;generalize Mg:w.heap.size=B at*;have ki:aE (∀w',av (λi=>i=B+1+1) aq w'->w'.cell? _=ab _/\w'.cell? _=ab _/\w'.cell? _=ab _/\w'.cell? _=ab _):=hid bJ.out;have yg:aE (∀w',au aq w'->w'.frozen? _=ao/\w'.frozen? _=ao/\w'.cell? _=ab _/\w'.cell? _=ab _):=hid GW.out
 have Lg:aE (∀w',au aq w'->∀u v,((w'.setCell _ u).setCell _ v).cell? _=ab _/\((w'.setCell _ u).setCell _ v).cell? _=ab _/\((w'.setCell _ u).setCell _ v).cell? _=ab _/\((w'.setCell _ u).setCell _ v).cell? _=ab _):=hid (λw' h u v=>
  ki.out _ ((h.mono (G:=λi=>i=B+1+1) (λ_ _ h=>h.elim)).trans ((av.setCell (F:=λi=>i=B+1+1) w' (p:=⟨_,0,af⟩) aa u).trans (av.setCell (F:=λi=>i=B+1+1) _ (p:=⟨_,1,af⟩) aa v) (λ_ _ h=>h)) (λ_ _ h=>h)))
 have K5:aE (∀w',au aq w'->∀u v,au w _):=hid (λw' h u v=>by have q:=((au.trans D6.out h).mono (G:=λi=>i=B+1+1) (λ_ _ h=>h.elim)).trans ((av.setCell (F:=λi=>i=B+1+1) w' (p:=⟨_,0,af⟩) aa u).trans (av.setCell (F:=λi=>i=B+1+1) _ (p:=⟨_,1,af⟩) aa v) (λ_ _ h=>h)) (λ_ _ h=>h);exact q.mono (λi hi h=>ad))
 have KW:aE (∀w',au aq w'->((w'.setCell _ _).setCell _ _).cell? _=ab _/\((w'.setCell _ (J R gC)).setCell _ _).cell? _=ab (J R eZ)):=hid (λw' h=>by obtain⟨_,_,FM,n4⟩:=yg.out w' h;exact Uu w' _ _ _ _ _ FM n4);clear bJ GW;rcases(show a<c\/¬a<c by omega)with Sc|Sc<;>rcases(show c+d<a+b\/¬c+d<a+b by omega)with hab|hab
 .go_region_held3 (λw'=>w'.cell? ⟨B,0,af⟩=ab (J R a)/\w'.cell? ⟨B,1,af⟩=ab (J R b)/\w'.cell? ⟨B+1,0,af⟩=ab (J R c)/\w'.cell? ⟨B+1,1,af⟩=ab (J R d))
   (first
     |exact ki.out _ (av.drew _)
     |exact ki.out _ (hc.mono (λ_ _ h=>h.elim))
     |exact Lg.out _ hc _ _
     |exact ki.out _ (hb.mono (λ_ _ h=>h.elim))
     |exact ki.out _ (ha.mono (λ_ _ h=>h.elim)))
   (first
     |(go_at_call 279;have cd:=HB.out (c) (c+d) pP az ad ad;with_reducible refine cd.mono ?_;clear cd;rintro e wc ⟨rfl,hc0⟩;have hc:au aq wc:=au.trans hb hc0;obtain⟨mI,ni,FM,n4⟩:=yg.out wc hc)
     |(go_at_call 117;have cd:=l1 c d jj c1 c2 dx;with_reducible refine cd.mono ?_;clear cd;rintro e pP ⟨rfl,hb0⟩;have hb:au aq pP:=au.trans ha hb0)
     |(go_at_call 117;refine(l1 a b _ fM a2 a3).mono ?_;rintro e jj ⟨rfl,ha0⟩;have ha:au aq jj:=au.trans (av.drew _) ha0))
  all_goals
   go_wp2;(try simp only[Gw,Exit.then]);obtain⟨gS,t'⟩:=KW.out wc hc;refine c' (v:=bn #[_,_]) ?_ aa ⟨aa,K5.out wc hc _ _⟩;rw[BT aa];go_simp
 .have aqM:=eq_false hab
  go_region_held3 (λw'=>w'.cell? ⟨B,0,af⟩=ab (J R a)/\w'.cell? ⟨B,1,af⟩=ab (J R b)/\w'.cell? ⟨B+1,0,af⟩=ab (J R c)/\w'.cell? ⟨B+1,1,af⟩=ab (J R d))
   (first
     |exact ki.out _ (av.drew _)
     |exact ki.out _ (hc.mono (λ_ _ h=>h.elim))
     |exact Lg.out _ hc _ _
     |exact ki.out _ (hb.mono (λ_ _ h=>h.elim))
     |exact ki.out _ (ha.mono (λ_ _ h=>h.elim)))
   (first
     |(go_at_call 279;have cd:=HB.out (c) (a+b) pP az ad ad;with_reducible refine cd.mono ?_;clear cd;rintro e wc ⟨rfl,hc0⟩;have hc:au aq wc:=au.trans hb hc0;obtain⟨mI,ni,FM,n4⟩:=yg.out wc hc)
     |(go_at_call 117;have cd:=l1 c d jj c1 c2 dx;with_reducible refine cd.mono ?_;clear cd;rintro e pP ⟨rfl,hb0⟩;have hb:au aq pP:=au.trans ha hb0)
     |(go_at_call 117;refine(l1 a b _ fM a2 a3).mono ?_;rintro e jj ⟨rfl,ha0⟩;have ha:au aq jj:=au.trans (av.drew _) ha0))
  all_goals
   go_wp2;(try simp only[Gw,Exit.then]);obtain⟨gS,t'⟩:=KW.out wc hc;refine c' (v:=bn #[_,_]) ?_ aa ⟨aa,K5.out wc hc _ _⟩;rw[BT aa];go_simp
 .have aqN:=eq_false Sc
  go_region_held3 (λw'=>w'.cell? ⟨B,0,af⟩=ab (J R a)/\w'.cell? ⟨B,1,af⟩=ab (J R b)/\w'.cell? ⟨B+1,0,af⟩=ab (J R c)/\w'.cell? ⟨B+1,1,af⟩=ab (J R d))
   (first
     |exact ki.out _ (av.drew _)
     |exact ki.out _ (hc.mono (λ_ _ h=>h.elim))
     |exact Lg.out _ hc _ _
     |exact ki.out _ (hb.mono (λ_ _ h=>h.elim))
     |exact ki.out _ (ha.mono (λ_ _ h=>h.elim)))
   (first
     |(go_at_call 279;have cd:=HB.out (a) (c+d) pP az ad ad;with_reducible refine cd.mono ?_;clear cd;rintro e wc ⟨rfl,hc0⟩;have hc:au aq wc:=au.trans hb hc0;obtain⟨mI,ni,FM,n4⟩:=yg.out wc hc)
     |(go_at_call 117;have cd:=l1 c d jj c1 c2 dx;with_reducible refine cd.mono ?_;clear cd;rintro e pP ⟨rfl,hb0⟩;have hb:au aq pP:=au.trans ha hb0)
     |(go_at_call 117;refine(l1 a b _ fM a2 a3).mono ?_;rintro e jj ⟨rfl,ha0⟩;have ha:au aq jj:=au.trans (av.drew _) ha0))
  all_goals
   go_wp2;(try simp only[Gw,Exit.then]);obtain⟨gS,t'⟩:=KW.out wc hc;refine c' (v:=bn #[_,_]) ?_ aa ⟨aa,K5.out wc hc _ _⟩;rw[BT aa];go_simp
 .have aqN:=eq_false Sc;have aqM:=eq_false hab
  go_region_held3 (λw'=>w'.cell? ⟨B,0,af⟩=ab (J R a)/\w'.cell? ⟨B,1,af⟩=ab (J R b)/\w'.cell? ⟨B+1,0,af⟩=ab (J R c)/\w'.cell? ⟨B+1,1,af⟩=ab (J R d))
   (first
     |exact ki.out _ (av.drew _)
     |exact ki.out _ (hc.mono (λ_ _ h=>h.elim))
     |exact Lg.out _ hc _ _
     |exact ki.out _ (hb.mono (λ_ _ h=>h.elim))
     |exact ki.out _ (ha.mono (λ_ _ h=>h.elim)))
   (first
     |(go_at_call 279;have cd:=HB.out (a) (a+b) pP az ad ad;with_reducible refine cd.mono ?_;clear cd;rintro e wc ⟨rfl,hc0⟩;have hc:au aq wc:=au.trans hb hc0;obtain⟨mI,ni,FM,n4⟩:=yg.out wc hc)
     |(go_at_call 117;have cd:=l1 c d jj c1 c2 dx;with_reducible refine cd.mono ?_;clear cd;rintro e pP ⟨rfl,hb0⟩;have hb:au aq pP:=au.trans ha hb0)
     |(go_at_call 117;refine(l1 a b _ fM a2 a3).mono ?_;rintro e jj ⟨rfl,ha0⟩;have ha:au aq jj:=au.trans (av.drew _) ha0))
  all_goals
   go_wp2;(try simp only[Gw,Exit.then]);obtain⟨gS,t'⟩:=KW.out wc hc;refine c' (v:=bn #[_,_]) ?_ aa ⟨aa,K5.out wc hc _ _⟩;rw[BT aa];go_simp
end Go.Proofs.YtcmhplknoglbkaaGreat
