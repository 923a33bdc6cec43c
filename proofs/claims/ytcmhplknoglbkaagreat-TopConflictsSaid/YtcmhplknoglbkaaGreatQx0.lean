/- Part 0 of the proof of TopConflictsSaid. -/
import Derived.WalkKit
import Derived.WalkSpells
import Derived.WalkLawsBesides
import Derived.Maps.RangeWalk
import Derived.OneCell
import Derived.BigQuiet
import Derived.Deep.QuietTactic
import Derived.Test.YtcmhplknoglbkaaGreatProg
import Derived.Deep.RegionHeld3
import Derived.Laws.ResultCell
set_option linter.all false
set_option maxRecDepth 100000
set_option maxHeartbeats 4000000
open Go.Proofs.Tryz
open Bool renaming false->ao,true->az
open Go renaming Calls->aD,Value->aO,World->aM,bodyPost_ret->dp,cell_of_row->fu,heap_alloc_new->fz,results_cell_tmp->By,run_underlying->gE
open Go.ChangeMaps renaming heap_setBlock_other->DH,heap_setBlock_same->DI,modify_eq_set->agz,setBlock->kV
open Go.Ending renaming returned->aB
open Go.Exit renaming inBlock->Gt
open Go.Instr renaming findKey->agG,lookup->qA,mapUpdate->DJ
open Go.IntKind renaming i64->R
open Go.MapKept renaming run_getObj_map->zv,run_setObj_map->Gx,stamped_iff->OZ
open Go.Obj renaming cells->bl,map->iP
open Go.Proofs.Tryz renaming func115->O3,func96->O',ntmps115->Pc,ntmps96->Pg,prog->aw
open Go.Result renaming andThen->J8
open Go.RowKit renaming Hid->aE
open Go.Value renaming agg->av,bool->ai,int->J,tuple->bm
open Go.World renaming cell?->zA,cell?_setCell_other->aiD,cell?_setCell_same'->aiE,frozen?->wA,size_alloc->zB
open List renaming find?_cons->aj9,mem_map->fL,pairwise_iff_getElem->l5,pairwise_map->ys
open Nat renaming le_refl->b4
open Option renaming none->af,some->ab
namespace Go.Proofs.YtcmhplknoglbkaaGreat
theorem aa{α:Sort _}{a:α}:a=a:=rfl
def ex{α : Sort _}(x : α): ∃ z, x = z := ⟨x, rfl⟩
def ad{p:Prop}(h:p:=by omega):p:=h
def ay{p:Prop}(h:p:=by kernel_rfl):p:=h
def a8{p:Prop}(h:p:=by simp):p:=h
def bf{p:Prop}(h:p:=by decide):p:=h
def aY{p:Prop}(h:p:=by rfl):p:=h
def aF{p:Prop}(h:p:=by grind):p:=h
section
open Go.RowKit Go.MapKept
open Go.ChangeMaps (setBlock heap_setBlock_same heap_setBlock_other)
open Go.Maps (Keyed)
theorem hid{p}(h:p):aE p:=h
def C8{P f args}{w:aM}{n v}(h:aD P f args (w.drewN n) λe w'=>e=aB v/\w.drewN n=w'):
 aD P f args (w.drewN n) λe NI=>e=aB v/\∃m,NI=w.drewN m:=
 h.mono λ_ _ ⟨he,hm⟩=>⟨he,n,hm.symm⟩
def FT{P f args}{w:aM}{a n v}(h:aD P f args (w.drewN (a+n)) λe w'=>e=aB v/\w.drewN (a+n)=w'):
 aD P f args (w.drewN (a+n)) λe NI=>e=aB v/\∃m,NI=w.drewN (a+m):=
 h.mono λ_ _ ⟨he,hm⟩=>⟨he,n,hm.symm⟩
structure au (F:Nat->Prop) (w w':aM):Prop where
 os:w'.os=w.os
 tape:w'.tape=w.tape
 output:w'.output=w.output
 size:w.heap.size<=w'.heap.size
 block:∀k,k<w.heap.size->¬F k->w'.heap[k]?=w.heap[k]?
section
variable {F G:Nat->Prop} {w w' a b c:aM}
theorem au.refl F w:au F w w:=⟨rfl,rfl,rfl,b4 _,λ_ _ _=>rfl⟩
theorem au.mono(h:au F w w')(aoD:∀k,k<w.heap.size->F k->G k):au G w w':=⟨h.os,h.tape,h.output,h.size,λk hk hn=>h.block k hk (λhf=>hn (aoD k hk hf))⟩
theorem au.trans(h:au F a b)(k:au G b c)(fe:∀i,i<a.heap.size->G i->F i):au F a c:=
 ⟨k.os.trans h.os,k.tape.trans h.tape,k.output.trans h.output,Nat.le_trans h.size k.size,λi hi hn=>(k.block i (Nat.lt_of_lt_of_le hi h.size) (λhg=>hn (fe i hi hg))).trans (h.block i hi hn)⟩
def au.alloc w o:au F w (w.alloc o):=⟨rfl,rfl,rfl,a8,λk hk _=>Below.heap_alloc w o k hk⟩
def au.drew w:au F w w.drew:=⟨rfl,rfl,rfl,b4 _,λ_ _ _=>rfl⟩
def au.drewN w n:au F w (w.drewN n):=⟨rfl,rfl,rfl,b4 _,λ_ _ _=>rfl⟩
def au.av8(h:au F w.drew w'):au F w w':=⟨h.os,h.tape,h.output,h.size,h.block⟩
def au.of_grownBy{row}(h:w.grownBy w' row)(hr:∀k,row=ab k->F k\/w.heap.size<=k):au F w w':=
 ⟨h.os,h.tape,h.output,h.size,λk hk hn=>h.block k hk (λe=>aF)⟩
def au.MX{B}(h:Below B w w')(kd:w.heap.size<=B):au F w w':=⟨h.os,h.tape,h.output,h.size,λk hk _=>h.block k ad⟩
theorem au.setCell w{p}(hp:F p.block)u:au F w (w.setCell p u):=
 ⟨rfl,rfl,rfl,a8,λk _ hn=>Below.heap_setCell w p u k (λe=>hn (e▸hp))⟩
theorem au.below{B}(h:au F w w')(kd:B<=w.heap.size)(hF:∀k,k<B->¬F k):Below B w w':=⟨h.os,h.tape,h.output,h.size,λk hk=>h.block k ad (hF k hk)⟩
theorem au.heap(h:au F w w'){k o}(hk:w.heap[k]?=ab o)(hn:¬F k):w'.heap[k]?=ab o:=
 (h.block k (Array.getElem?_eq_some_iff.1 hk).1 hn).trans hk
theorem au.cell(h:au F w w'){p v}(hp:w.cell? p=ab v)(hn:¬F p.block):w'.cell? p=ab v:=
 (World.cell?_of_block (w:=w) (h.block p.block (World.block_lt_of_cell? w p hp) hn)).trans hp
end
abbrev ar(w w':aM):Prop:=au (λ_=>False) w w'
def ar.to{F w w'}(h:ar w w'):au F w w':=h.mono (λ_ _ hf=>hf.elim)
theorem ar.below{w w'}(h:ar w w'):Below w.heap.size w w':=by grind[au.below]
theorem ar.trans{a b c}(h:ar a b)(k:ar b c):ar a c:=by grind[au.trans]
def c8(w:aM)(A:Option Addr)(xs:List Int):Prop:=
 0<xs.length->∃b off,A=ab ⟨b,off,af⟩/\∀j,j<xs.length->w.cell? ⟨b,off+j,af⟩=ab (J R (xs[j]?.getD 0))
theorem c8.nil{w A}:c8 w A []:=λh=>absurd h a8
def c8.only{F w w' A xs}(h:c8 w A xs)(k:au F w w')(hn:∀b off,A=ab ⟨b,off,af⟩->¬F b):c8 w' A xs:=λhp=>by obtain⟨b,off,rfl,hc⟩:=h hp;exact⟨b,_,rfl,λj hj=>k.cell (hc j hj) (hn b _ rfl)⟩
def c8.aG{w w' A xs}(h:c8 w A xs)(k:ar w w'):c8 w' A xs:=h.only k (λ_ _ _ hf=>hf)
theorem c8.nU{w}{base e n c:Nat}{A xs}(h:w.ownsRow base e 1 (.slice A n c) n (xs.map (J R))):c8 w A xs:=λhp=>by
 have hn:=by simpa using h.1.symm
 rcases h.2 with⟨hv,h0⟩|⟨g,cap,cur,hv,hb,hg,j9,hcm,hcs,ht⟩;·omega
 .injection hv with h1 h2 h3;subst h1;refine⟨g,0,rfl,λj hj=>?_⟩;have hc:=h.cells (g:=g) rfl j (J R (xs[j]?.getD 0)) aF;grind[Addr.add]
def kI(w:aM)(A:Option Addr)(E:List (Int×Int)):Prop:=
 0<E.length->∃b off,A=ab ⟨b,off,af⟩/\∀j,j<E.length->w.cell? ⟨b,off+j*2,af⟩=ab (J R (E[j]?.getD (0,0)).1)/\w.cell? ⟨b,off+j*2+1,af⟩=ab (J R (E[j]?.getD (0,0)).2)
def kI.only{F w w' A E}(h:kI w A E)(k:au F w w')(hn:∀b off,A=ab ⟨b,off,af⟩->¬F b):kI w' A E:=λhp=>by obtain⟨b,off,rfl,hc⟩:=h hp;exact⟨b,_,rfl,λj hj=>⟨k.cell (hc j hj).1 (hn b _ rfl),k.cell (hc j hj).2 (hn b _ rfl)⟩⟩
def kI.aG{w w' A E}(h:kI w A E)(k:ar w w'):kI w' A E:=h.only k (λ_ _ _ hf=>hf)
section
variable {fh:Type} [DecidableEq fh]
structure ss (P:Program) (k:TypeId) (enc:fh->aO) (ok:fh->Prop):Prop where
 keyed:Keyed P k
 reads:∀{x},ok x->∃l,keyOf P k (enc x)=ab l
 inj:∀{x y},enc x=enc y->x=y
def dM(w:aM)(b:Nat)(enc:fh->aO)(ok:fh->Prop)(bg:List (fh×aO)):Prop:=
 ∃es clock,w.heap[b]?=ab (iP es clock)/\Stamped es clock/\es.size<=maxLen/\es.toList.map (λe=>(e.key,e.val))=bg.map (λp=>(enc p.1,p.2))/\∀p∈bg,ok p.1
def dX(bg:List (fh×aO))(x:fh):Option Value:=(bg.find? (λp=>decide (p.1=x))).map (·.2)
def r8(bg:List (fh×aO))(x:fh):Bool:=bg.any (λp=>decide (p.1=x))
def ka(bg:List (fh×aO))(x:fh)(v:aO):List (fh×aO):=
 if r8 bg x then bg.map (λp=>if p.1=x then(x,v)else p)else bg++[(x,v)]
def AO(bg:List (fh×aO))(x:fh):List (fh×aO):=bg.filter (λp=>!decide (p.1=x))
variable {P:Program} {k:TypeId} {enc:fh->aO} {ok:fh->Prop} {w w':aM} {b:Nat} {bg:List (fh×aO)}
omit [DecidableEq fh]in
def dM.lt(h:dM w b enc ok bg):b<w.heap.size:=by obtain⟨es,clock,hb,_⟩:=h;grind
omit [DecidableEq fh]in
def dM.only{F}(h:dM w b enc ok bg)(k:au F w w')(hn:¬F b):dM w' b enc ok bg:=by obtain⟨es,clock,hb,r⟩:=h;exact⟨es,_,k.heap hb hn,r⟩
omit [DecidableEq fh]in
def dM.made(w:aM)enc(ok:fh->Prop):dM (w.alloc (iP #[] 0)) w.heap.size enc ok []:=
 ⟨#[],0,(MapKept.heap_alloc w _).1,stamped_empty 0,a8,a8,a8⟩
theorem MP{bg}{x:fh}:dX bg x=af↔∀p∈bg,p.1≠x:=by simp[dX]
theorem r7{bg}{x:fh}{v}(h:dX bg x=ab v):(x,v)∈bg:=by
 unfold dX at h;cases hf:bg.find? (λp=>decide (p.1=x))with
 |none=>grind
 |some p=>grind
theorem IP{bg}{x:fh}:r8 bg x=az↔∃p∈bg,p.1=x:=by simp[r8]
theorem IQ{bg}{x:fh}:r8 bg x=(dX bg x).isSome:=by grind[r8,dX]
omit [DecidableEq fh]in
def dM.nodup(h:dM w b enc ok bg):bg.Pairwise (λp q=>p.1≠q.1):=by obtain⟨es,clock,_,hs,_,he,_⟩:=h;have h3:=((OZ es _).1 hs).2.2;have h4:(es.toList.map (λe=>(e.key,e.val))).Pairwise (λp q=>p.1≠q.1):=ys.2 h3;rw[he,ys]at h4;exact h4.imp (λhne e=>hne (by rw[e]))
def xy{bg}(hd:bg.Pairwise (λp q=>p.1≠q.1)){x:fh}{v}(h:(x,v)∈bg):dX bg x=ab v:=by
 induction bg with
 |nil=>grind
 |cons p r ca=>grind[List.pairwise_cons,dX]
theorem MO bg(x:fh)v y:dX (ka bg x v) y=if y=x then ab v else dX bg y:=by
 unfold ka;by_cases hh:r8 bg x=az
 .rw[if_pos hh];unfold dX;induction bg with
  |nil=>grind[r8]
  |cons p r ca=>
   rw[List.map_cons,aj9,aj9];by_cases hp:p.1=x
   .rw[if_pos hp];by_cases hy:y=x;·grind
    .have:¬x=y:=λe=>hy e.symm;have h2:¬p.1=y:=λe=>hy (e▸hp);simp only[this,decide_false,h2,if_neg hy];by_cases hr:r8 r x=az;·grind
     .have:r.map (λp=>if p.1=x then(x,v)else p)=r:=by
       conv=>rhs;rw[<-List.map_id r]
       grind[List.map_congr_left,IP]
      rw[this]
   grind[IP]
 grind[dX,IP]
theorem AQ{bg}{x:fh}{v p}(h:p∈ka bg x v):p=(x,v)\/(p∈bg/\p.1≠x):=by grind[ka,IP]
theorem TC bg(x:fh)v:(ka bg x v).length<=bg.length+1:=by grind[ka]
theorem MQ{bg}{x:fh}v(h:r8 bg x=ao):ka bg x v=bg++[(x,v)]:=by grind[ka]
def dM.find(C:ss P k enc ok)(h:dM w b enc ok bg){x}(hx:ok x):∃es clock,w.heap[b]?=ab (iP es clock)/\Stamped es clock/\es.size=bg.length/\es.toList.map (λe=>(e.key,e.val))=bg.map (λp=>(enc p.1,p.2))/\
 (((∀w1:aM,(agG k (enc x) es.toList).run P w1=.ok af w1)/\(∀e∈es.toList,e.key≠enc x)/\dX bg x=af)\/
   ∃j e,(∀w1:aM,(agG k (enc x) es.toList).run P w1=.ok (ab (j,e.val)) w1)/\es[j]?=ab e/\e.key=enc x/\dX bg x=ab e.val/\bg[j]?=ab (x,e.val)):=by
 have eN:=h.nodup;obtain⟨es,clock,hb,hs,hz,he,c3⟩:=h;obtain⟨ML,hlx⟩:=C.reads hx;have hlen:=by have:=congrArg List.length he;simpa using this
 have SA:∀e∈es.toList,∃l,keyOf P k e.key=ab l:=λe xc=>by have:(e.key,e.val)∈es.toList.map (λe=>(e.key,e.val)):=fL.2 ⟨e,xc,rfl⟩;rw[he]at this;obtain⟨p,hp,AI⟩:=fL.1 this;simp at AI;rw[<-AI.1];exact C.reads (c3 p hp)
 refine⟨es,_,hb,hs,hlen,he,?_⟩;rcases C.keyed.find w hlx es.toList SA with⟨h1,h2⟩|⟨j,dN,h1,h2,h3⟩
 .refine .inl ⟨λw1=>?_,h2,MP.2 (λp hp S0=>?_)⟩
  .rcases C.keyed.find w1 hlx es.toList SA with⟨RV,_⟩|⟨j,dN,_,hj,h3⟩;·omega
   grind
  .have:(enc p.1,p.2)∈bg.map (λp=>(enc _,p.2)):=fL.2 ⟨p,hp,rfl⟩;grind
 .have hk:bg[j]?=ab (x,dN.val):=by
   have h5:(es.toList.map (λe=>(e.key,e.val)))[j]?=ab (dN.key,dN.val):=aF;rw[he,List.getElem?_map]at h5;cases hq:bg[j]? with
   |none=>grind
   |some q=>
    rw[hq]at h5;simp at h5;rw[h3]at h5;have bB:=C.inj h5.1;rw[<-bB,<-h5.2]
  refine .inr ⟨j,dN,λw1=>?_,aF,h3,xy eN (List.mem_of_getElem? hk),hk⟩;rcases C.keyed.find w1 hlx es.toList SA with⟨_,hno⟩|⟨uB,j6,RV,RW,RX⟩;·grind
  grind[OZ,l5]
def dM.lookup{t e}(C:ss P k enc ok)(ht:P.underlying t=ab (.map k e)){z}(hz:∀w:aM,(zeroValue e).run P w=.ok z w)(h:dM w b enc ok bg){x}(hx:ok x):
 (qA t (.map (ab b)) (enc x) ao).run P w=.ok ((dX bg x).getD z) w/\
 (qA t (.map (ab b)) (enc x) az).run P w=.ok (bm #[(dX bg x).getD z,ai (dX bg x).isSome]) w:=by
 obtain⟨ML,hlx⟩:=C.reads hx;obtain⟨es,clock,hb,hs,hsz,he,hf⟩:=h.find C hx;rcases hf with⟨h1,h2,h3⟩|⟨j,dN,h1,h2,h3,h4,h5⟩;·constructor<;>simp[qA,gE ht,zv hb,C.keyed.check w _ hlx,h1,hz w,J8,h3]
 .constructor<;>simp[qA,gE ht,zv hb,C.keyed.check w _ hlx,h1,J8,h4]
def dM.update{t e}(C:ss P k enc ok)(ht:P.underlying t=ab (.map k e))(h:dM w b enc ok bg)(hn:bg.length<maxLen){x}(hx:ok x)v:
 ∃w',(DJ t (.map (ab b)) (enc x) v).run P w=.ok () w'/\dM w' b enc ok (ka bg x v)/\w.grownBy w' (ab b)/\w'.heap.size=w.heap.size:=by
 obtain⟨ML,hlx⟩:=C.reads hx;have eN:=h.nodup;have c3:∀p∈bg,ok p.1:=by obtain⟨_,_,_,_,_,_,c3⟩:=h;exact c3
 obtain⟨es,clock,hb,hs,hsz,he,hf⟩:=h.find C hx;rcases hf with⟨h1,h2,h3⟩|⟨j,dN,h1,h2,h3,h4,h5⟩
 .have hh:r8 bg x=false:=by grind[IQ]
  refine⟨kV w b (iP (es.push ⟨enc x,v,clock⟩) (clock+1)),?_,⟨_,_,DI hb _,stamped_push hs h2,aF,?_,?_⟩,⟨rfl,rfl,rfl,by simp[kV],λi _ hi=>DH hb _ (λe=>hi (by rw[e]))⟩,by simp[kV]⟩;·simp[DJ,gE ht,zv hb,C.keyed.check w ao hlx,h1,Gx _ hb,kV]
  .grind[MQ]
  .intro p hp;rcases AQ hp with rfl|⟨hp,_⟩;·omega
   .grind
 .have hh:r8 bg x=true:=by grind[IQ]
  have Sz:∀j6,es[j]?=ab j6->({j6 with key:=enc x,val:=v}:MapEntry).key=j6.key:=λj6 Cp=>by grind
  refine⟨kV w b (iP (es.modify j (λj6=>{j6 with key:=enc x,val:=v})) clock),?_,⟨_,_,DI hb _,stamped_modify hs _ _ (λ_ _=>rfl) (λj6 _ Cp=>Sz j6 Cp),aF,?_,?_⟩,⟨rfl,rfl,rfl,by simp[kV],λi _ hi=>DH hb _ (λe=>hi (by rw[e]))⟩,by simp[kV]⟩;·simp[DJ,gE ht,zv hb,C.keyed.check w ao hlx,h1,h2,h3,C.keyed.stays w hlx,Gx _ hb,kV]
  .have hj:es.toList[j]?=ab dN:=aF;rw[Array.toList_modify,agz _ _ _ _ hj,List.map_set,he];unfold ka;rw[if_pos hh];apply List.ext_getElem?;grind[l5]
  .intro p hp;rcases AQ hp with rfl|⟨hp,_⟩;·omega
   .grind
def Js {t e ops rest o a Q} (hg:o.guard=af) (m x v) (hop:o.op=Op.mapUpdate t m x v)
 (C:ss P k enc ok) (ht:P.underlying t=ab (.map k e)) (h:dM w b enc ok bg) (hn:bg.length<maxLen) (hm:a.eval m=.map (ab b)) {y} (hy:ok y) (hx:a.eval x=enc y) val (hv:a.eval v=val)
 (hK:∀w',dM w' b enc ok (ka bg y val)->w.grownBy w' (ab b)->w'.heap.size=w.heap.size->wpList P ops Q rest (a.put o.dst undef) w'):wpList P ops Q (o::rest) a w:=by
 refine wpList_plain hg λyo hK'=>?_;obtain⟨w',hrun,eJ,fp,jF⟩:=h.update C ht hn hy val;unfold Oper.wp;simp[execOp,hop,hm,hx,hv,hrun];exact hK' _ _ (hK w' eJ fp jF)
end
end
open Go.RowKit Go.MapKept
def c4(x:Int):Prop:=-9223372036854775808<=x/\x<=9223372036854775807
def q4(e:Int×Int):Prop:=c4 e.1/\c4 e.2
def et(e:Int×Int):Prop:=0<=e.1/\0<=e.2/\e.1+e.2<=4611686018427387903
abbrev gI(e:Int×Int):Value:=av #[J R e.1,J R e.2]
def kR(a b:Int×Int):Int×Int:=if max a.1 b.1<min (a.1+a.2) (b.1+b.2)then(max a.1 b.1,min (a.1+a.2) (b.1+b.2) -max a.1 b.1)else(0,0)
def meets(a b:Int×Int):Bool:=decide (max a.1 b.1<min (a.1+a.2) (b.1+b.2))
def yB(w:aM)(x y)t:(w.alloc (bl #[x,y] t)).cell? ⟨w.heap.size,0,af⟩=ab x/\(w.alloc (bl #[x,y] t)).cell? ⟨w.heap.size,1,af⟩=ab y:=
 ⟨fu _ _ 0 _ _ _ (fz w _),fu _ _ 1 _ _ _ (fz w _)⟩
def lO(a b)w(h1:0<=a)(h2:0<=b)(h3:a+b<=4611686018427387903):
 aD aw 117 #[av #[J R a,J R b]] w λe w'=>e=aB (J R (a+b))/\ar w w':=by
 go_enter func117,ntmps117;go_wp2;go_ret;exact⟨aa,au.alloc _ _⟩
def nt(e:Int×Int):Bool:=decide (0<=e.1)&&(decide (0<=e.2)&&decide (e.1+e.2<=4611686018427387903))
theorem Ga{e}:nt e=az↔et e:=by simp[nt,et]
def Jp{a b}(h:¬et (a,b)):nt (a,b)=false:=by grind[Ga]
def afQ(a b)w(ha:c4 a)(hb:c4 b):
 aD aw 115 #[av #[J R a,J R b]] w λe w'=>e=aB (ai (nt (a,b)))/\ar w w':=by
 obtain⟨ha1,ha2⟩:=ha;obtain⟨hb1,hb2⟩:=hb;by_cases h0:a<0\/b<0
 .rw[Jp (λh=>by have h1:=h.1;have h2:=h.2.1;simp only at h1 h2;omega)];by_cases hle:a<=b;·have h1:a<0:=ad;clear h0;go_enter O3,Pc;go_wp2;go_ret;exact⟨aa,au.alloc _ _⟩
  .have h1:b<0:=ad;clear h0;go_enter O3,Pc;go_wp2;go_ret;exact⟨aa,au.alloc _ _⟩
 .have E7:0<=a:=ad;have oD:0<=b:=ad;by_cases h4:4611686018427387903<a;·rw[Jp (λh=>by have h1:=h.2.2;simp only at h1;omega)];have h5:decide (a<=4611686018427387903)=false:=aF;clear h0;go_enter O3,Pc;go_wp2;all_goals(go_ret;exact⟨aa,au.alloc _ _⟩)
  .have h5:decide (a<=4611686018427387903)=true:=aF;have h6:0<=a:=ad;have h7:a<=4611686018427387903:=ad;obtain⟨r,hr⟩:∃r,decide (b<=4611686018427387903 -a)=r:=⟨_,aa⟩;have cB:aE (nt (a,b)=r):=hid (by grind[nt]);rw[cB.out];clear h0 h4 cB;go_enter O3,Pc;go_wp2;all_goals(go_ret;exact⟨aa,au.alloc _ _⟩)
def IL w:aD aw 112 #[] w λe w'=>e=aB (J R 4611686018427387903)/\w=w':=by go_enter func112,ntmps112;go_wp2;go_ret;exact⟨aa,aa⟩
def alk(lo hi least)w(h1:-4611686018427387904<=lo)(h2:lo<=4611686018427387903)(h3:-4611686018427387904<=hi)(h4:hi<=4611686018427387903)r(hr:decide (hi -lo<least)=r):
 aD aw 279 #[J R lo,J R hi,J R least] w λe w'=>e=aB (bm #[if r=az then gI (0,0)else gI (lo,hi -lo),ai (!r)])/\ar w w':=by
 cases r
 all_goals
  go_enter func279,ntmps279;go_wp2;(try simp only[Gt,Exit.then]);refine dp (v:=bm #[_,_]) ?_ aa ⟨aa,au.alloc _ _⟩;rw[By aa];go_simp
def ao1(a b at_)w(h:et (a,b))r(hr:decide (a<=at_/\at_<a+b)=r):
 aD aw 244 #[av #[J R a,J R b],J R at_] w λe w'=>e=aB (ai r)/\ar w w':=by
 obtain⟨h1,h2,h3⟩:=h;simp only at h1 h2 h3;by_cases h0:a<=at_;·have h4:decide (a<=at_)=true:=aF;have h5:decide (at_<a+b)=r:=aF;clear hr h0;go_enter Tryz.func244,Tryz.ntmps244;go_wp2;go_ret;exact⟨aa,au.alloc _ _⟩
 .have h4:decide (a<=at_)=false:=aF;obtain rfl:r=false:=aF;clear hr h0;go_enter Tryz.func244,Tryz.ntmps244;go_wp2;go_ret;exact⟨aa,au.alloc _ _⟩
def Ul(a b)w(ha:c4 a)(hb:c4 b):
 aD aw 96 #[av #[J R a,J R b]] w λe w'=>e=aB (ai (nt (a,b)))/\ar w w':=by
 obtain⟨ha1,ha2⟩:=ha;obtain⟨hb1,hb2⟩:=hb;by_cases h0:0<=a
 .have d0:decide (0<=a)=true:=aF;by_cases h1:0<=b
  .have d1:decide (0<=b)=true:=aF;by_cases h4:a<=4611686018427387903;·have d4:decide (a<=4611686018427387903)=true:=aF;obtain⟨r,hr⟩:∃r,decide (b<=4611686018427387903 -a)=r:=⟨_,aa⟩;have cB:aE (nt (a,b)=r):=hid (by grind[nt]);rw[cB.out];clear cB;go_enter O',Pg;go_wp2_with fail;go_quiet ((go_at_call 112;(first|exact C8 (IL _)|exact FT (IL _))));go_wp2;go_ret;exact⟨aa,ar.trans (au.alloc _ _) (au.drewN _ _)⟩
   .have d4:decide (a<=4611686018427387903)=false:=aF;rw[Jp (λh=>by have h1:=h.2.2;simp only at h1;omega)];go_enter O',Pg;go_wp2_with fail;go_quiet ((go_at_call 112;(first|exact C8 (IL _)|exact FT (IL _))));go_wp2;go_ret;exact⟨aa,ar.trans (au.alloc _ _) (au.drewN _ _)⟩
  .have d1:decide (0<=b)=false:=aF;rw[Jp (λh=>by have h1:=h.2.1;simp only at h1;omega)];go_enter O',Pg;go_wp2_with fail;go_quiet (fail);go_wp2;go_ret;exact⟨aa,ar.trans (au.alloc _ _) (au.drewN _ _)⟩
 .have d0:decide (0<=a)=false:=aF;rw[Jp (λh=>by have h1:=h.1;simp only at h1;omega)];go_enter O',Pg;go_wp2_with fail;go_quiet (fail);go_wp2;go_ret;exact⟨aa,ar.trans (au.alloc _ _) (au.drewN _ _)⟩
def xL{fn}{p:Tmp}{ty}(h:fn.results=#[.cell p ty])tmps P w:
 (results fn tmps).run P w=((asAddr (tmps.getD p undef)).run P w).andThen λa w₁=>(loadVar ty a).run P w₁:=by
 simp only[results,h];simp
def Lt{a b c d lo n}(h1:lo=max a c)(h2:n=min (a+b) (c+d) -max a c)(h3:max a c<min (a+b) (c+d)):gI (lo,n)=gI (kR (a,b) (c,d)):=by grind[kR]
def anb{a b c d}(h3:min (a+b) (c+d)<=max a c):gI (0,0)=gI (kR (a,b) (c,d)):=by grind[kR]
set_option maxHeartbeats 4000000 in
def aeI(a b c d)w(h1:et (a,b))(h2:et (c,d)):
 aD aw 169 #[av #[J R a,J R b],av #[J R c,J R d]] w λe w'=>e=aB (gI (kR (a,b) (c,d)))/\ar w w':=by
 obtain⟨fX,a2,a3⟩:=h1;obtain⟨c1,c2,eG⟩:=h2;simp only at fX a2 a3 c1 c2 eG;go_enter func169,ntmps169;go_wp2;all_goals(try simp only[Gt,Exit.then])
 all_goals first
  |(refine dp (v:=gI (a,a+b -a)) ?_ aa ⟨by rw[Lt (a:=a) (b:=b) (c:=c) (d:=d) (lo:=a) (n:=a+b -a) ad ad ad],ar.trans (au.alloc _ _) (ar.trans (au.alloc _ _) (au.alloc _ _))⟩;rw[xL aa];go_simp;done)
  |(refine dp (v:=gI (a,c+d -a)) ?_ aa ⟨by rw[Lt (a:=a) (b:=b) (c:=c) (d:=d) (lo:=a) (n:=c+d -a) ad ad ad],ar.trans (au.alloc _ _) (ar.trans (au.alloc _ _) (au.alloc _ _))⟩;rw[xL aa];go_simp;done)
  |(refine dp (v:=gI (c,a+b -c)) ?_ aa ⟨by rw[Lt (a:=a) (b:=b) (c:=c) (d:=d) (lo:=c) (n:=a+b -c) ad ad ad],ar.trans (au.alloc _ _) (ar.trans (au.alloc _ _) (au.alloc _ _))⟩;rw[xL aa];go_simp;done)
  |(refine dp (v:=gI (c,c+d -c)) ?_ aa ⟨by rw[Lt (a:=a) (b:=b) (c:=c) (d:=d) (lo:=c) (n:=c+d -c) ad ad ad],ar.trans (au.alloc _ _) (ar.trans (au.alloc _ _) (au.alloc _ _))⟩;rw[xL aa];go_simp;done)
  |(refine dp (v:=gI (0,0)) ?_ aa ⟨by rw[anb (a:=a) (b:=b) (c:=c) (d:=d) ad],ar.trans (au.alloc _ _) (ar.trans (au.alloc _ _) (au.alloc _ _))⟩;rw[xL aa];go_simp;done)
def Uq(w:aM)b(x y NQ UQ)(h1:w.cell? ⟨b,0,af⟩=ab x)(h2:w.cell? ⟨b,1,af⟩=ab y):
 ((w.setCell ⟨b,0,af⟩ NQ).setCell ⟨b,1,af⟩ UQ).cell? ⟨b,0,af⟩=ab NQ/\((w.setCell ⟨b,0,af⟩ NQ).setCell ⟨b,1,af⟩ UQ).cell? ⟨b,1,af⟩=ab UQ:=by
 have fX:=aiE w ⟨b,0,af⟩ NQ aF;constructor;·grind[aiD]
 .refine aiE _ _ _ ?_;rw[aiD];·grind
  .simp
def asW{a b c d lo hi}(h1:lo=max a c)(h2:hi=min (a+b) (c+d)):(if decide (hi -lo<1)=az then gI (0,0)else gI (lo,hi -lo))=gI (kR (a,b) (c,d))/\(!decide (hi -lo<1))=meets (a,b) (c,d):=by grind[kR,meets]
set_option maxHeartbeats 4000000 in
def M6(a b c d)w(h1:et (a,b))(h2:et (c,d)):
 aD aw 202 #[av #[J R a,J R b],av #[J R c,J R d]] w λe w'=>e=aB (bm #[gI (kR (a,b) (c,d)),ai (meets (a,b) (c,d))])/\ar w w':=by
 obtain⟨fX,a2,a3⟩:=h1;obtain⟨c1,c2,eG⟩:=h2;simp only at fX a2 a3 c1 c2 eG
 have HB:aE (∀lo hi W (r:Bool),lo=max a c->hi=min (a+b) (c+d)->aD _ 279 _ W λe w'=>e=aB _/\ar W w'):=hid (λlo hi W r kO yY=>by have h:=alk lo hi 1 W ad ad ad ad _ aa;obtain⟨bB,bY⟩:=asW (a:=a) (b:=b) (c:=c) (d:=d) kO yY;rw[bB,bY]at h;exact h);generalize meets (a,b) (c,d)=r at*;generalize kR (a,b) (c,d)=o at*;obtain⟨fB,ef⟩:=o
 have cj:aE (∀w',au (λi=>i=w.heap.size+2) _ w'->w'.cell? _=ab _/\w'.cell? _=ab _/\w'.cell? _=ab (J R c)/\w'.cell? _=ab (J R d)):=hid (λw' hw'=>by have g1:=yB w (J R a) (J R b) 35;have g2:=yB (w.alloc (bl #[J R a,J R b] 35)) (J R c) (J R d) 35;rw[zB]at g2;have fS:=au.alloc (F:=λi=>i=w.heap.size+2) (w.alloc (bl #[J R a,J R b] 35)) (bl #[J R c,J R d] 35);have fD:=au.alloc (F:=λi=>i=w.heap.size+2) ((w.alloc (bl #[J R a,J R b] 35)).alloc (bl #[J R c,J R d] 35)) (bl #[J R 0,J R 0] 35);have iM:=(fS.trans fD (λ_ _ h=>h)).trans hw' (λ_ _ h=>h);have ql:=fD.trans hw' (λ_ _ h=>h);exact⟨iM.cell g1.1 (by show¬w.heap.size=w.heap.size+2;omega),iM.cell g1.2 (by show¬w.heap.size=w.heap.size+2;omega),ql.cell g2.1 (by show¬w.heap.size+1=w.heap.size+2;omega),ql.cell g2.2 (by show¬w.heap.size+1=w.heap.size+2;omega)⟩)
 have GS:aE (∀w',au (λ_=>False) _ w'->w'.frozen? ⟨w.heap.size+1+1,0,af⟩=ao/\w'.frozen? ⟨w.heap.size+1+1,1,af⟩=ao/\w'.cell? ⟨w.heap.size+1+1,0,af⟩=ab (J R 0)/\w'.cell? ⟨w.heap.size+1+1,1,af⟩=ab (J R 0)):=hid (λw' hw'=>by have g3:=fz ((w.alloc (bl #[J R a,J R b] 35)).alloc (bl #[J R c,J R d] 35)) (bl #[J R 0,J R 0] 35);rw[zB,zB]at g3;have g4:=hw'.heap g3 (λh=>h);exact⟨by simp[wA,g4],by simp[wA,g4],by simp[zA,g4],by simp[zA,g4]⟩);go_enter func202,ntmps202;go_wp2_with fail;have DY:aE (ar w (((w.alloc (bl #[J R a,J R b] 35)).alloc (bl #[J R c,J R d] 35)).alloc (bl #[J R 0,J R 0] 35))):=hid (ar.trans (au.alloc _ _) (ar.trans (au.alloc _ _) (au.alloc _ _)));generalize ((w.alloc (bl #[J R a,J R b] 35)).alloc (bl #[J R c,J R d] 35)).alloc (bl #[J R 0,J R 0] 35)=aq at*;generalize LD:w.heap.size=B at*;have kn:aE (∀w',au (λi=>i=B+1+1) aq w'->w'.cell? _=ab _/\w'.cell? _=ab _/\w'.cell? _=ab _/\w'.cell? _=ab _):=hid cj.out;have ye:aE (∀w',ar aq w'->w'.frozen? _=ao/\w'.frozen? _=ao/\w'.cell? _=ab _/\w'.cell? _=ab _):=hid GS.out
 have KB:aE (∀w',ar aq w'->∀u v,((w'.setCell _ u).setCell _ v).cell? _=ab _/\((w'.setCell _ u).setCell _ v).cell? _=ab _/\((w'.setCell _ u).setCell _ v).cell? _=ab _/\((w'.setCell _ u).setCell _ v).cell? _=ab _):=hid (λw' h u v=>
  kn.out _ ((h.mono (G:=λi=>i=B+1+1) (λ_ _ h=>h.elim)).trans ((au.setCell (F:=λi=>i=B+1+1) w' (p:=⟨_,0,af⟩) aa u).trans (au.setCell (F:=λi=>i=B+1+1) _ (p:=⟨_,1,af⟩) aa v) (λ_ _ h=>h)) (λ_ _ h=>h)))
 have Kr:aE (∀w',ar aq w'->∀u v,ar w _):=hid (λw' h u v=>by have q:=((ar.trans DY.out h).mono (G:=λi=>i=B+1+1) (λ_ _ h=>h.elim)).trans ((au.setCell (F:=λi=>i=B+1+1) w' (p:=⟨_,0,af⟩) aa u).trans (au.setCell (F:=λi=>i=B+1+1) _ (p:=⟨_,1,af⟩) aa v) (λ_ _ h=>h)) (λ_ _ h=>h);exact q.mono (λi hi h=>ad))
 have Kk:aE (∀w',ar aq w'->((w'.setCell _ _).setCell _ _).cell? _=ab _/\((w'.setCell _ (J R fB)).setCell _ _).cell? _=ab (J R ef)):=hid (λw' h=>by obtain⟨_,_,Fz,n4⟩:=ye.out w' h;exact Uq w' _ _ _ _ _ Fz n4);clear cj GS;rcases(show a<c\/¬a<c by omega)with Sa|Sa<;>rcases(show c+d<a+b\/¬c+d<a+b by omega)with hab|hab
 .go_region_held3 (λw'=>w'.cell? ⟨B,0,af⟩=ab (J R a)/\w'.cell? ⟨B,1,af⟩=ab (J R b)/\w'.cell? ⟨B+1,0,af⟩=ab (J R c)/\w'.cell? ⟨B+1,1,af⟩=ab (J R d))
   (first
     |exact kn.out _ (au.drew _)
     |exact kn.out _ (hc.mono (λ_ _ h=>h.elim))
     |exact KB.out _ hc _ _
     |exact kn.out _ (hb.mono (λ_ _ h=>h.elim))
     |exact kn.out _ (ha.mono (λ_ _ h=>h.elim)))
   (first
     |(go_at_call 279;have b2:=HB.out (c) (c+d) px az ad ad;with_reducible refine b2.mono ?_;clear b2;rintro e wc ⟨rfl,hc0⟩;have hc:ar aq wc:=ar.trans hb hc0;obtain⟨vU,mJ,Fz,n4⟩:=ye.out wc hc)
     |(go_at_call 117;have b2:=lO c d i' c1 c2 eG;with_reducible refine b2.mono ?_;clear b2;rintro e px ⟨rfl,hb0⟩;have hb:ar aq px:=ar.trans ha hb0)
     |(go_at_call 117;refine(lO a b _ fX a2 a3).mono ?_;rintro e i' ⟨rfl,ha0⟩;have ha:ar aq i':=ar.trans (au.drew _) ha0))
  all_goals
   go_wp2;(try simp only[Gt,Exit.then]);obtain⟨gy,Af⟩:=Kk.out wc hc;refine dp (v:=bm #[_,_]) ?_ aa ⟨aa,Kr.out wc hc _ _⟩;rw[By aa];go_simp
 .have aoW:=eq_false hab
  go_region_held3 (λw'=>w'.cell? ⟨B,0,af⟩=ab (J R a)/\w'.cell? ⟨B,1,af⟩=ab (J R b)/\w'.cell? ⟨B+1,0,af⟩=ab (J R c)/\w'.cell? ⟨B+1,1,af⟩=ab (J R d))
   (first
     |exact kn.out _ (au.drew _)
     |exact kn.out _ (hc.mono (λ_ _ h=>h.elim))
     |exact KB.out _ hc _ _
     |exact kn.out _ (hb.mono (λ_ _ h=>h.elim))
     |exact kn.out _ (ha.mono (λ_ _ h=>h.elim)))
   (first
     |(go_at_call 279;have b2:=HB.out (c) (a+b) px az ad ad;with_reducible refine b2.mono ?_;clear b2;rintro e wc ⟨rfl,hc0⟩;have hc:ar aq wc:=ar.trans hb hc0;obtain⟨vU,mJ,Fz,n4⟩:=ye.out wc hc)
     |(go_at_call 117;have b2:=lO c d i' c1 c2 eG;with_reducible refine b2.mono ?_;clear b2;rintro e px ⟨rfl,hb0⟩;have hb:ar aq px:=ar.trans ha hb0)
     |(go_at_call 117;refine(lO a b _ fX a2 a3).mono ?_;rintro e i' ⟨rfl,ha0⟩;have ha:ar aq i':=ar.trans (au.drew _) ha0))
  all_goals
   go_wp2;(try simp only[Gt,Exit.then]);obtain⟨gy,Af⟩:=Kk.out wc hc;refine dp (v:=bm #[_,_]) ?_ aa ⟨aa,Kr.out wc hc _ _⟩;rw[By aa];go_simp
 .have aoX:=eq_false Sa
  go_region_held3 (λw'=>w'.cell? ⟨B,0,af⟩=ab (J R a)/\w'.cell? ⟨B,1,af⟩=ab (J R b)/\w'.cell? ⟨B+1,0,af⟩=ab (J R c)/\w'.cell? ⟨B+1,1,af⟩=ab (J R d))
   (first
     |exact kn.out _ (au.drew _)
     |exact kn.out _ (hc.mono (λ_ _ h=>h.elim))
     |exact KB.out _ hc _ _
     |exact kn.out _ (hb.mono (λ_ _ h=>h.elim))
     |exact kn.out _ (ha.mono (λ_ _ h=>h.elim)))
   (first
     |(go_at_call 279;have b2:=HB.out (a) (c+d) px az ad ad;with_reducible refine b2.mono ?_;clear b2;rintro e wc ⟨rfl,hc0⟩;have hc:ar aq wc:=ar.trans hb hc0;obtain⟨vU,mJ,Fz,n4⟩:=ye.out wc hc)
     |(go_at_call 117;have b2:=lO c d i' c1 c2 eG;with_reducible refine b2.mono ?_;clear b2;rintro e px ⟨rfl,hb0⟩;have hb:ar aq px:=ar.trans ha hb0)
     |(go_at_call 117;refine(lO a b _ fX a2 a3).mono ?_;rintro e i' ⟨rfl,ha0⟩;have ha:ar aq i':=ar.trans (au.drew _) ha0))
  all_goals
   go_wp2;(try simp only[Gt,Exit.then]);obtain⟨gy,Af⟩:=Kk.out wc hc;refine dp (v:=bm #[_,_]) ?_ aa ⟨aa,Kr.out wc hc _ _⟩;rw[By aa];go_simp
 .have aoX:=eq_false Sa;have aoW:=eq_false hab
  go_region_held3 (λw'=>w'.cell? ⟨B,0,af⟩=ab (J R a)/\w'.cell? ⟨B,1,af⟩=ab (J R b)/\w'.cell? ⟨B+1,0,af⟩=ab (J R c)/\w'.cell? ⟨B+1,1,af⟩=ab (J R d))
   (first
     |exact kn.out _ (au.drew _)
     |exact kn.out _ (hc.mono (λ_ _ h=>h.elim))
     |exact KB.out _ hc _ _
     |exact kn.out _ (hb.mono (λ_ _ h=>h.elim))
     |exact kn.out _ (ha.mono (λ_ _ h=>h.elim)))
   (first
     |(go_at_call 279;have b2:=HB.out (a) (a+b) px az ad ad;with_reducible refine b2.mono ?_;clear b2;rintro e wc ⟨rfl,hc0⟩;have hc:ar aq wc:=ar.trans hb hc0;obtain⟨vU,mJ,Fz,n4⟩:=ye.out wc hc)
     |(go_at_call 117;have b2:=lO c d i' c1 c2 eG;with_reducible refine b2.mono ?_;clear b2;rintro e px ⟨rfl,hb0⟩;have hb:ar aq px:=ar.trans ha hb0)
     |(go_at_call 117;refine(lO a b _ fX a2 a3).mono ?_;rintro e i' ⟨rfl,ha0⟩;have ha:ar aq i':=ar.trans (au.drew _) ha0))
  all_goals
   go_wp2;(try simp only[Gt,Exit.then]);obtain⟨gy,Af⟩:=Kk.out wc hc;refine dp (v:=bm #[_,_]) ?_ aa ⟨aa,Kr.out wc hc _ _⟩;rw[By aa];go_simp
end Go.Proofs.YtcmhplknoglbkaaGreat
