/- Part 0 of the proof of TopConvertsSaid. -/
import Derived.WalkKit
import Derived.WalkSpells
import Derived.WalkLawsBesides
import Derived.Maps.RangeWalk
import Derived.OneCell
import Derived.BigQuiet
import Derived.Deep.QuietTactic
import Derived.Test.YtcmhplknoglbkaaGreatProg
import Derived.Deep.RegionHeld3
import Derived.Laws.ResultCell
set_option linter.all false
set_option maxRecDepth 100000
set_option maxHeartbeats 4000000
open Go.Proofs.Tryz
open Bool renaming false->au,true->aB
open Go renaming Calls->aD,Value->aP,World->aN,bodyPost_ret->dp,cell_of_row->eC,heap_alloc_new->ff,results_cell_tmp->AV,run_underlying->gG
open Go.ChangeMaps renaming heap_setBlock_other->CY,heap_setBlock_same->CZ,modify_eq_set->afM,setBlock->kR
open Go.Ending renaming returned->aA
open Go.Exit renaming inBlock->FB
open Go.Instr renaming findKey->afT,lookup->qg,mapUpdate->C1
open Go.IntKind renaming i64->R
open Go.MapKept renaming run_getObj_map->y5,run_setObj_map->FF,stamped_iff->Oh
open Go.Obj renaming cells->bf,map->iP
open Go.Proofs.Tryz renaming func115->Om,func244->agt,func96->Ov,ntmps115->Ox,ntmps244->ahg,ntmps96->OC,prog->ax
open Go.Result renaming andThen->Jy
open Go.RowKit renaming Hid->aE
open Go.Value renaming agg->av,bool->aj,int->J,tuple->bh
open Go.World renaming cell?->y8,cell?_setCell_other->ahJ,cell?_setCell_same'->ahK,frozen?->uO,size_alloc->y9
open List renaming find?_cons->W',mem_map->gN,pairwise_iff_getElem->l3,pairwise_map->xW
open Nat renaming le_refl->cp
open Option renaming none->af,some->ab
namespace Go.Proofs.YtcmhplknoglbkaaGreat
theorem aa{α:Sort _}{a:α}:a=a:=rfl
def ex{α : Sort _}(x : α): ∃ z, x = z := ⟨x, rfl⟩
def ae{p:Prop}(h:p:=by omega):p:=h
def aw{p:Prop}(h:p:=by kernel_rfl):p:=h
def aU{p:Prop}(h:p:=by simp):p:=h
def bj{p:Prop}(h:p:=by decide):p:=h
def aT{p:Prop}(h:p:=by rfl):p:=h
def aG{p:Prop}(h:p:=by grind):p:=h
section
open Go.RowKit Go.MapKept
open Go.ChangeMaps (setBlock heap_setBlock_same heap_setBlock_other)
open Go.Maps (Keyed)
theorem hid{p}(h:p):aE p:=h
def Ct{P f args}{w:aN}{n v}(h:aD P f args (w.drewN n) λe w'=>e=aA v/\w.drewN n=w'):
 aD P f args (w.drewN n) λe M'=>e=aA v/\∃m,M'=w.drewN m:=
 h.mono λ_ _ ⟨he,hm⟩=>⟨he,n,hm.symm⟩
def E5{P f args}{w:aN}{a n v}(h:aD P f args (w.drewN (a+n)) λe w'=>e=aA v/\w.drewN (a+n)=w'):
 aD P f args (w.drewN (a+n)) λe M'=>e=aA v/\∃m,M'=w.drewN (a+m):=
 h.mono λ_ _ ⟨he,hm⟩=>⟨he,n,hm.symm⟩
structure aq (F:Nat->Prop) (w w':aN):Prop where
 os:w'.os=w.os
 tape:w'.tape=w.tape
 output:w'.output=w.output
 size:w.heap.size<=w'.heap.size
 block:∀k,k<w.heap.size->¬F k->w'.heap[k]?=w.heap[k]?
section
variable {F G:Nat->Prop} {w w' a b c:aN}
theorem aq.refl F w:aq F w w:=⟨rfl,rfl,rfl,cp _,λ_ _ _=>rfl⟩
theorem aq.mono(h:aq F w w')(anK:∀k,k<w.heap.size->F k->G k):aq G w w':=⟨h.os,h.tape,h.output,h.size,λk hk hn=>h.block k hk (λhf=>hn (anK k hk hf))⟩
theorem aq.trans(h:aq F a b)(k:aq G b c)(dU:∀i,i<a.heap.size->G i->F i):aq F a c:=
 ⟨k.os.trans h.os,k.tape.trans h.tape,k.output.trans h.output,Nat.le_trans h.size k.size,λi hi hn=>(k.block i (Nat.lt_of_lt_of_le hi h.size) (λhg=>hn (dU i hi hg))).trans (h.block i hi hn)⟩
theorem aq.alloc w o:aq F w (w.alloc o):=⟨rfl,rfl,rfl,aU,λk hk _=>Below.heap_alloc w o k hk⟩
def aq.drew w:aq F w w.drew:=⟨rfl,rfl,rfl,cp _,λ_ _ _=>rfl⟩
def aq.drewN w n:aq F w (w.drewN n):=⟨rfl,rfl,rfl,cp _,λ_ _ _=>rfl⟩
def aq.au2(h:aq F w.drew w'):aq F w w':=⟨h.os,h.tape,h.output,h.size,h.block⟩
def aq.of_grownBy{row}(h:w.grownBy w' row)(hr:∀k,row=ab k->F k\/w.heap.size<=k):aq F w w':=
 ⟨h.os,h.tape,h.output,h.size,λk hk hn=>h.block k hk (λe=>aG)⟩
def aq.Mo{B}(h:Below B w w')(ie:w.heap.size<=B):aq F w w':=⟨h.os,h.tape,h.output,h.size,λk hk _=>h.block k ae⟩
theorem aq.setCell w{p}(hp:F p.block)u:aq F w (w.setCell p u):=
 ⟨rfl,rfl,rfl,aU,λk _ hn=>Below.heap_setCell w p u k (λe=>hn (e▸hp))⟩
theorem aq.below{B}(h:aq F w w')(ie:B<=w.heap.size)(hF:∀k,k<B->¬F k):Below B w w':=⟨h.os,h.tape,h.output,h.size,λk hk=>h.block k ae (hF k hk)⟩
theorem aq.heap(h:aq F w w'){k o}(hk:w.heap[k]?=ab o)(hn:¬F k):w'.heap[k]?=ab o:=
 (h.block k (Array.getElem?_eq_some_iff.1 hk).1 hn).trans hk
theorem aq.cell(h:aq F w w'){p v}(hp:w.cell? p=ab v)(hn:¬F p.block):w'.cell? p=ab v:=
 (World.cell?_of_block (w:=w) (h.block p.block (World.block_lt_of_cell? w p hp) hn)).trans hp
end
abbrev ao(w w':aN):Prop:=aq (λ_=>False) w w'
def ao.to{F w w'}(h:ao w w'):aq F w w':=h.mono (λ_ _ hf=>hf.elim)
theorem ao.below{w w'}(h:ao w w'):Below w.heap.size w w':=by grind[aq.below]
theorem ao.trans{a b c}(h:ao a b)(k:ao b c):ao a c:=by grind[aq.trans]
def cX(w:aN)(A:Option Addr)(xs:List Int):Prop:=
 0<xs.length->∃b off,A=ab ⟨b,off,af⟩/\∀j,j<xs.length->w.cell? ⟨b,off+j,af⟩=ab (J R (xs[j]?.getD 0))
theorem cX.nil{w A}:cX w A []:=λh=>absurd h aU
def cX.only{F w w' A xs}(h:cX w A xs)(k:aq F w w')(hn:∀b off,A=ab ⟨b,off,af⟩->¬F b):cX w' A xs:=λhp=>by obtain⟨b,off,rfl,hc⟩:=h hp;exact⟨b,_,rfl,λj hj=>k.cell (hc j hj) (hn b _ rfl)⟩
def cX.aI{w w' A xs}(h:cX w A xs)(k:ao w w'):cX w' A xs:=h.only k (λ_ _ _ hf=>hf)
theorem cX.lW{w}{base e n c:Nat}{A xs}(h:w.ownsRow base e 1 (.slice A n c) n (xs.map (J R))):cX w A xs:=λhp=>by
 have hn:=by simpa using h.1.symm
 rcases h.2 with⟨hv,h0⟩|⟨g,cap,cur,hv,hb,hg,iI,hcm,hcs,ht⟩;·omega
 .injection hv with h1 h2 h3;subst h1;refine⟨g,0,rfl,λj hj=>?_⟩;have hc:=h.cells (g:=g) rfl j (J R (xs[j]?.getD 0)) aG;grind[Addr.add]
def jy(w:aN)(A:Option Addr)(E:List (Int×Int)):Prop:=
 0<E.length->∃b off,A=ab ⟨b,off,af⟩/\∀j,j<E.length->w.cell? ⟨b,off+j*2,af⟩=ab (J R (E[j]?.getD (0,0)).1)/\w.cell? ⟨b,off+j*2+1,af⟩=ab (J R (E[j]?.getD (0,0)).2)
theorem jy.nil{w A}:jy w A []:=λh=>absurd h aU
def jy.only{F w w' A E}(h:jy w A E)(k:aq F w w')(hn:∀b off,A=ab ⟨b,off,af⟩->¬F b):jy w' A E:=λhp=>by obtain⟨b,off,rfl,hc⟩:=h hp;exact⟨b,_,rfl,λj hj=>⟨k.cell (hc j hj).1 (hn b _ rfl),k.cell (hc j hj).2 (hn b _ rfl)⟩⟩
def jy.aI{w w' A E}(h:jy w A E)(k:ao w w'):jy w' A E:=h.only k (λ_ _ _ hf=>hf)
section
variable {fe:Type} [DecidableEq fe]
structure sg (P:Program) (k:TypeId) (enc:fe->aP) (ok:fe->Prop):Prop where
 keyed:Keyed P k
 reads:∀{x},ok x->∃l,keyOf P k (enc x)=ab l
 inj:∀{x y},enc x=enc y->x=y
def dZ(w:aN)(b:Nat)(enc:fe->aP)(ok:fe->Prop)(bk:List (fe×aP)):Prop:=
 ∃es clock,w.heap[b]?=ab (iP es clock)/\Stamped es clock/\es.size<=maxLen/\es.toList.map (λe=>(e.key,e.val))=bk.map (λp=>(enc p.1,p.2))/\∀p∈bk,ok p.1
def ed(bk:List (fe×aP))(x:fe):Option Value:=(bk.find? (λp=>decide (p.1=x))).map (·.2)
def rW(bk:List (fe×aP))(x:fe):Bool:=bk.any (λp=>decide (p.1=x))
def jY(bk:List (fe×aP))(x:fe)(v:aP):List (fe×aP):=
 if rW bk x then bk.map (λp=>if p.1=x then(x,v)else p)else bk++[(x,v)]
def Aa(bk:List (fe×aP))(x:fe):List (fe×aP):=bk.filter (λp=>!decide (p.1=x))
variable {P:Program} {k:TypeId} {enc:fe->aP} {ok:fe->Prop} {w w':aN} {b:Nat} {bk:List (fe×aP)}
omit [DecidableEq fe]in
def dZ.lt(h:dZ w b enc ok bk):b<w.heap.size:=by obtain⟨es,clock,hb,_⟩:=h;grind
omit [DecidableEq fe]in
def dZ.only{F}(h:dZ w b enc ok bk)(k:aq F w w')(hn:¬F b):dZ w' b enc ok bk:=by obtain⟨es,clock,hb,r⟩:=h;exact⟨es,_,k.heap hb hn,r⟩
omit [DecidableEq fe]in
def dZ.made(w:aN)enc(ok:fe->Prop):dZ (w.alloc (iP #[] 0)) w.heap.size enc ok []:=
 ⟨#[],0,(MapKept.heap_alloc w _).1,stamped_empty 0,aU,aU,aU⟩
theorem Mg{bk}{x:fe}:ed bk x=af↔∀p∈bk,p.1≠x:=by simp[ed]
theorem rV{bk}{x:fe}{v}(h:ed bk x=ab v):(x,v)∈bk:=by
 unfold ed at h;cases hf:bk.find? (λp=>decide (p.1=x))with
 |none=>grind
 |some p=>grind
theorem Ib{bk}{x:fe}:rW bk x=aB↔∃p∈bk,p.1=x:=by simp[rW]
theorem Ic{bk}{x:fe}:rW bk x=(ed bk x).isSome:=by grind[rW,ed]
omit [DecidableEq fe]in
def dZ.nodup(h:dZ w b enc ok bk):bk.Pairwise (λp q=>p.1≠q.1):=by obtain⟨es,clock,_,hs,_,he,_⟩:=h;have h3:=((Oh es _).1 hs).2.2;have h4:(es.toList.map (λe=>(e.key,e.val))).Pairwise (λp q=>p.1≠q.1):=xW.2 h3;rw[he,xW]at h4;exact h4.imp (λhne e=>hne (by rw[e]))
def w8{bk}(hd:bk.Pairwise (λp q=>p.1≠q.1)){x:fe}{v}(h:(x,v)∈bk):ed bk x=ab v:=by
 induction bk with
 |nil=>grind
 |cons p r bY=>grind[List.pairwise_cons,ed]
theorem SX bk(x:fe)v y:ed (jY bk x v) y=if y=x then ab v else ed bk y:=by
 unfold jY;by_cases hh:rW bk x=aB
 .rw[if_pos hh];unfold ed;induction bk with
  |nil=>grind[rW]
  |cons p r bY=>
   rw[List.map_cons,W',W'];by_cases hp:p.1=x
   .rw[if_pos hp];by_cases hy:y=x;·grind
    .have:¬x=y:=λe=>hy e.symm;have h2:¬p.1=y:=λe=>hy (e▸hp);simp only[this,decide_false,h2,if_neg hy];by_cases hr:rW r x=aB;·grind
     .have:r.map (λp=>if p.1=x then(x,v)else p)=r:=by
       conv=>rhs;rw[<-List.map_id r]
       grind[List.map_congr_left,Ib]
      rw[this]
   grind[Ib]
 grind[ed,Ib]
theorem Ac{bk}{x:fe}{v p}(h:p∈jY bk x v):p=(x,v)\/(p∈bk/\p.1≠x):=by grind[jY,Ib]
def ack bk(x:fe)v:(jY bk x v).length<=bk.length+1:=by grind[jY]
theorem Mh{bk}{x:fe}v(h:rW bk x=au):jY bk x v=bk++[(x,v)]:=by grind[jY]
def dZ.find(C:sg P k enc ok)(h:dZ w b enc ok bk){x}(hx:ok x):∃es clock,w.heap[b]?=ab (iP es clock)/\Stamped es clock/\es.size=bk.length/\es.toList.map (λe=>(e.key,e.val))=bk.map (λp=>(enc p.1,p.2))/\
 (((∀w1:aN,(afT k (enc x) es.toList).run P w1=.ok af w1)/\(∀e∈es.toList,e.key≠enc x)/\ed bk x=af)\/
   ∃j e,(∀w1:aN,(afT k (enc x) es.toList).run P w1=.ok (ab (j,e.val)) w1)/\es[j]?=ab e/\e.key=enc x/\ed bk x=ab e.val/\bk[j]?=ab (x,e.val)):=by
 have eh:=h.nodup;obtain⟨es,clock,hb,hs,hz,he,c'⟩:=h;obtain⟨Mc,hlx⟩:=C.reads hx;have hlen:=by have:=congrArg List.length he;simpa using this
 have RT:∀e∈es.toList,∃l,keyOf P k e.key=ab l:=λe wQ=>by have:(e.key,e.val)∈es.toList.map (λe=>(e.key,e.val)):=gN.2 ⟨e,wQ,rfl⟩;rw[he]at this;obtain⟨p,hp,zX⟩:=gN.1 this;simp at zX;rw[<-zX.1];exact C.reads (c' p hp)
 refine⟨es,_,hb,hs,hlen,he,?_⟩;rcases C.keyed.find w hlx es.toList RT with⟨h1,h2⟩|⟨j,dT,h1,h2,h3⟩
 .refine .inl ⟨λw1=>?_,h2,Mg.2 (λp hp Sh=>?_)⟩
  .rcases C.keyed.find w1 hlx es.toList RT with⟨Rb,_⟩|⟨j,dT,_,hj,h3⟩;·omega
   grind
  .have:(enc p.1,p.2)∈bk.map (λp=>(enc _,p.2)):=gN.2 ⟨p,hp,rfl⟩;grind
 .have hk:bk[j]?=ab (x,dT.val):=by
   have h5:(es.toList.map (λe=>(e.key,e.val)))[j]?=ab (dT.key,dT.val):=aG;rw[he,List.getElem?_map]at h5;cases hq:bk[j]? with
   |none=>grind
   |some q=>
    rw[hq]at h5;simp at h5;rw[h3]at h5;have bD:=C.inj h5.1;rw[<-bD,<-h5.2]
  refine .inr ⟨j,dT,λw1=>?_,aG,h3,w8 eh (List.mem_of_getElem? hk),hk⟩;rcases C.keyed.find w1 hlx es.toList RT with⟨_,hno⟩|⟨azd,km,Rb,Rc,Re⟩;·grind
  grind[Oh,l3]
def dZ.lookup{t e}(C:sg P k enc ok)(ht:P.underlying t=ab (.map k e)){z}(hz:∀w:aN,(zeroValue e).run P w=.ok z w)(h:dZ w b enc ok bk){x}(hx:ok x):
 (qg t (.map (ab b)) (enc x) au).run P w=.ok ((ed bk x).getD z) w/\
 (qg t (.map (ab b)) (enc x) aB).run P w=.ok (bh #[(ed bk x).getD z,aj (ed bk x).isSome]) w:=by
 obtain⟨Mc,hlx⟩:=C.reads hx;obtain⟨es,clock,hb,hs,hsz,he,hf⟩:=h.find C hx;rcases hf with⟨h1,h2,h3⟩|⟨j,dT,h1,h2,h3,h4,h5⟩;·constructor<;>simp[qg,gG ht,y5 hb,C.keyed.check w _ hlx,h1,hz w,Jy,h3]
 .constructor<;>simp[qg,gG ht,y5 hb,C.keyed.check w _ hlx,h1,Jy,h4]
def dZ.update{t e}(C:sg P k enc ok)(ht:P.underlying t=ab (.map k e))(h:dZ w b enc ok bk)(hn:bk.length<maxLen){x}(hx:ok x)v:
 ∃w',(C1 t (.map (ab b)) (enc x) v).run P w=.ok () w'/\dZ w' b enc ok (jY bk x v)/\w.grownBy w' (ab b)/\w'.heap.size=w.heap.size:=by
 obtain⟨Mc,hlx⟩:=C.reads hx;have eh:=h.nodup;have c':∀p∈bk,ok p.1:=by obtain⟨_,_,_,_,_,_,c'⟩:=h;exact c'
 obtain⟨es,clock,hb,hs,hsz,he,hf⟩:=h.find C hx;rcases hf with⟨h1,h2,h3⟩|⟨j,dT,h1,h2,h3,h4,h5⟩
 .have hh:rW bk x=false:=by grind[Ic]
  refine⟨kR w b (iP (es.push ⟨enc x,v,clock⟩) (clock+1)),?_,⟨_,_,CZ hb _,stamped_push hs h2,aG,?_,?_⟩,⟨rfl,rfl,rfl,by simp[kR],λi _ hi=>CY hb _ (λe=>hi (by rw[e]))⟩,by simp[kR]⟩;·simp[C1,gG ht,y5 hb,C.keyed.check w au hlx,h1,FF _ hb,kR]
  .grind[Mh]
  .intro p hp;rcases Ac hp with rfl|⟨hp,_⟩;·omega
   .grind
 .have hh:rW bk x=true:=by grind[Ic]
  have RS:∀km,es[j]?=ab km->({km with key:=enc x,val:=v}:MapEntry).key=km.key:=λkm BM=>by grind
  refine⟨kR w b (iP (es.modify j (λkm=>{km with key:=enc x,val:=v})) clock),?_,⟨_,_,CZ hb _,stamped_modify hs _ _ (λ_ _=>rfl) (λkm _ BM=>RS km BM),aG,?_,?_⟩,⟨rfl,rfl,rfl,by simp[kR],λi _ hi=>CY hb _ (λe=>hi (by rw[e]))⟩,by simp[kR]⟩;·simp[C1,gG ht,y5 hb,C.keyed.check w au hlx,h1,h2,h3,C.keyed.stays w hlx,FF _ hb,kR]
  .have hj:es.toList[j]?=ab dT:=aG;rw[Array.toList_modify,afM _ _ _ _ hj,List.map_set,he];unfold jY;rw[if_pos hh];apply List.ext_getElem?;grind[l3]
  .intro p hp;rcases Ac hp with rfl|⟨hp,_⟩;·omega
   .grind
def IS {t e ops rest o a Q} (hg:o.guard=af) (m x v) (hop:o.op=Op.mapUpdate t m x v)
 (C:sg P k enc ok) (ht:P.underlying t=ab (.map k e)) (h:dZ w b enc ok bk) (hn:bk.length<maxLen) (hm:a.eval m=.map (ab b)) {y} (hy:ok y) (hx:a.eval x=enc y) val (hv:a.eval v=val)
 (hK:∀w',dZ w' b enc ok (jY bk y val)->w.grownBy w' (ab b)->w'.heap.size=w.heap.size->wpList P ops Q rest (a.put o.dst undef) w'):wpList P ops Q (o::rest) a w:=by
 refine wpList_plain hg λxS hK'=>?_;obtain⟨w',hrun,dW,eA,iX⟩:=h.update C ht hn hy val;unfold Oper.wp;simp[execOp,hop,hm,hx,hv,hrun];exact hK' _ _ (hK w' dW eA iX)
end
end
open Go.RowKit Go.MapKept
def db(x:Int):Prop:=-9223372036854775808<=x/\x<=9223372036854775807
def qN(e:Int×Int):Prop:=db e.1/\db e.2
def eE(e:Int×Int):Prop:=0<=e.1/\0<=e.2/\e.1+e.2<=4611686018427387903
abbrev gJ(e:Int×Int):Value:=av #[J R e.1,J R e.2]
def kM(a b:Int×Int):Int×Int:=if max a.1 b.1<min (a.1+a.2) (b.1+b.2)then(max a.1 b.1,min (a.1+a.2) (b.1+b.2) -max a.1 b.1)else(0,0)
def meets(a b:Int×Int):Bool:=decide (max a.1 b.1<min (a.1+a.2) (b.1+b.2))
def x5(w:aN)(x y)t:(w.alloc (bf #[x,y] t)).cell? ⟨w.heap.size,0,af⟩=ab x/\(w.alloc (bf #[x,y] t)).cell? ⟨w.heap.size,1,af⟩=ab y:=
 ⟨eC _ _ 0 _ _ _ (ff w _),eC _ _ 1 _ _ _ (ff w _)⟩
def lN(a b)w(h1:0<=a)(h2:0<=b)(h3:a+b<=4611686018427387903):
 aD ax 117 #[av #[J R a,J R b]] w λe w'=>e=aA (J R (a+b))/\ao w w':=by
 go_enter func117,ntmps117;go_wp2;go_ret;exact⟨aa,aq.alloc _ _⟩
def nT(e:Int×Int):Bool:=decide (0<=e.1)&&(decide (0<=e.2)&&decide (e.1+e.2<=4611686018427387903))
theorem Fl{e}:nT e=aB↔eE e:=by simp[nT,eE]
def IN{a b}(h:¬eE (a,b)):nT (a,b)=false:=by grind[Fl]
def ae3(a b)w(ha:db a)(hb:db b):
 aD ax 115 #[av #[J R a,J R b]] w λe w'=>e=aA (aj (nT (a,b)))/\ao w w':=by
 obtain⟨ha1,ha2⟩:=ha;obtain⟨hb1,hb2⟩:=hb;by_cases h0:a<0\/b<0
 .rw[IN (λh=>by have h1:=h.1;have h2:=h.2.1;simp only at h1 h2;omega)];by_cases hle:a<=b;·have h1:a<0:=ae;clear h0;go_enter Om,Ox;go_wp2;go_ret;exact⟨aa,aq.alloc _ _⟩
  .have h1:b<0:=ae;clear h0;go_enter Om,Ox;go_wp2;go_ret;exact⟨aa,aq.alloc _ _⟩
 .have Ep:0<=a:=ae;have oA:0<=b:=ae;by_cases h4:4611686018427387903<a;·rw[IN (λh=>by have h1:=h.2.2;simp only at h1;omega)];have h5:decide (a<=4611686018427387903)=false:=aG;clear h0;go_enter Om,Ox;go_wp2;all_goals(go_ret;exact⟨aa,aq.alloc _ _⟩)
  .have h5:decide (a<=4611686018427387903)=true:=aG;have h6:0<=a:=ae;have h7:a<=4611686018427387903:=ae;obtain⟨r,hr⟩:∃r,decide (b<=4611686018427387903 -a)=r:=⟨_,aa⟩;have cB:aE (nT (a,b)=r):=hid (by grind[nT]);rw[cB.out];clear h0 h4 cB;go_enter Om,Ox;go_wp2;all_goals(go_ret;exact⟨aa,aq.alloc _ _⟩)
def H' w:aD ax 112 #[] w λe w'=>e=aA (J R 4611686018427387903)/\w=w':=by go_enter func112,ntmps112;go_wp2;go_ret;exact⟨aa,aa⟩
def akh(lo hi least)w(h1:-4611686018427387904<=lo)(h2:lo<=4611686018427387903)(h3:-4611686018427387904<=hi)(h4:hi<=4611686018427387903)r(hr:decide (hi -lo<least)=r):
 aD ax 279 #[J R lo,J R hi,J R least] w λe w'=>e=aA (bh #[if r=aB then gJ (0,0)else gJ (lo,hi -lo),aj (!r)])/\ao w w':=by
 cases r
 all_goals
  go_enter func279,ntmps279;go_wp2;(try simp only[FB,Exit.then]);refine dp (v:=bh #[_,_]) ?_ aa ⟨aa,aq.alloc _ _⟩;rw[AV aa];go_simp
def ZP(a b at_)w(h:eE (a,b))r(hr:decide (a<=at_/\at_<a+b)=r):
 aD ax 244 #[av #[J R a,J R b],J R at_] w λe w'=>e=aA (aj r)/\ao w w':=by
 obtain⟨h1,h2,h3⟩:=h;simp only at h1 h2 h3;by_cases h0:a<=at_;·have h4:decide (a<=at_)=true:=aG;have h5:decide (at_<a+b)=r:=aG;clear hr h0;go_enter agt,ahg;go_wp2;go_ret;exact⟨aa,aq.alloc _ _⟩
 .have h4:decide (a<=at_)=false:=aG;obtain rfl:r=false:=aG;clear hr h0;go_enter agt,ahg;go_wp2;go_ret;exact⟨aa,aq.alloc _ _⟩
def ad1(a b)w(ha:db a)(hb:db b):
 aD ax 96 #[av #[J R a,J R b]] w λe w'=>e=aA (aj (nT (a,b)))/\ao w w':=by
 obtain⟨ha1,ha2⟩:=ha;obtain⟨hb1,hb2⟩:=hb;by_cases h0:0<=a
 .have d0:decide (0<=a)=true:=aG;by_cases h1:0<=b
  .have d1:decide (0<=b)=true:=aG;by_cases h4:a<=4611686018427387903;·have d4:decide (a<=4611686018427387903)=true:=aG;obtain⟨r,hr⟩:∃r,decide (b<=4611686018427387903 -a)=r:=⟨_,aa⟩;have cB:aE (nT (a,b)=r):=hid (by grind[nT]);rw[cB.out];clear cB;go_enter Ov,OC;go_wp2_with fail;go_quiet ((go_at_call 112;(first|exact Ct (H' _)|exact E5 (H' _))));go_wp2;go_ret;exact⟨aa,ao.trans (aq.alloc _ _) (aq.drewN _ _)⟩
   .have d4:decide (a<=4611686018427387903)=false:=aG;rw[IN (λh=>by have h1:=h.2.2;simp only at h1;omega)];go_enter Ov,OC;go_wp2_with fail;go_quiet ((go_at_call 112;(first|exact Ct (H' _)|exact E5 (H' _))));go_wp2;go_ret;exact⟨aa,ao.trans (aq.alloc _ _) (aq.drewN _ _)⟩
  .have d1:decide (0<=b)=false:=aG;rw[IN (λh=>by have h1:=h.2.1;simp only at h1;omega)];go_enter Ov,OC;go_wp2_with fail;go_quiet (fail);go_wp2;go_ret;exact⟨aa,ao.trans (aq.alloc _ _) (aq.drewN _ _)⟩
 .have d0:decide (0<=a)=false:=aG;rw[IN (λh=>by have h1:=h.1;simp only at h1;omega)];go_enter Ov,OC;go_wp2_with fail;go_quiet (fail);go_wp2;go_ret;exact⟨aa,ao.trans (aq.alloc _ _) (aq.drewN _ _)⟩
def xj{fn}{p:Tmp}{ty}(h:fn.results=#[.cell p ty])tmps P w:
 (results fn tmps).run P w=((asAddr (tmps.getD p undef)).run P w).andThen λa w₁=>(loadVar ty a).run P w₁:=by
 simp only[results,h];simp
def KS{a b c d lo n}(h1:lo=max a c)(h2:n=min (a+b) (c+d) -max a c)(h3:max a c<min (a+b) (c+d)):gJ (lo,n)=gJ (kM (a,b) (c,d)):=by grind[kM]
def amd{a b c d}(h3:min (a+b) (c+d)<=max a c):gJ (0,0)=gJ (kM (a,b) (c,d)):=by grind[kM]
set_option maxHeartbeats 4000000 in
def adP(a b c d)w(h1:eE (a,b))(h2:eE (c,d)):
 aD ax 169 #[av #[J R a,J R b],av #[J R c,J R d]] w λe w'=>e=aA (gJ (kM (a,b) (c,d)))/\ao w w':=by
 obtain⟨gp,a2,a3⟩:=h1;obtain⟨c1,c2,fG⟩:=h2;simp only at gp a2 a3 c1 c2 fG;go_enter func169,ntmps169;go_wp2;all_goals(try simp only[FB,Exit.then])
 all_goals first
  |(refine dp (v:=gJ (a,a+b -a)) ?_ aa ⟨by rw[KS (a:=a) (b:=b) (c:=c) (d:=d) (lo:=a) (n:=a+b -a) ae ae ae],ao.trans (aq.alloc _ _) (ao.trans (aq.alloc _ _) (aq.alloc _ _))⟩;rw[xj aa];go_simp;done)
  |(refine dp (v:=gJ (a,c+d -a)) ?_ aa ⟨by rw[KS (a:=a) (b:=b) (c:=c) (d:=d) (lo:=a) (n:=c+d -a) ae ae ae],ao.trans (aq.alloc _ _) (ao.trans (aq.alloc _ _) (aq.alloc _ _))⟩;rw[xj aa];go_simp;done)
  |(refine dp (v:=gJ (c,a+b -c)) ?_ aa ⟨by rw[KS (a:=a) (b:=b) (c:=c) (d:=d) (lo:=c) (n:=a+b -c) ae ae ae],ao.trans (aq.alloc _ _) (ao.trans (aq.alloc _ _) (aq.alloc _ _))⟩;rw[xj aa];go_simp;done)
  |(refine dp (v:=gJ (c,c+d -c)) ?_ aa ⟨by rw[KS (a:=a) (b:=b) (c:=c) (d:=d) (lo:=c) (n:=c+d -c) ae ae ae],ao.trans (aq.alloc _ _) (ao.trans (aq.alloc _ _) (aq.alloc _ _))⟩;rw[xj aa];go_simp;done)
  |(refine dp (v:=gJ (0,0)) ?_ aa ⟨by rw[amd (a:=a) (b:=b) (c:=c) (d:=d) ae],ao.trans (aq.alloc _ _) (ao.trans (aq.alloc _ _) (aq.alloc _ _))⟩;rw[xj aa];go_simp;done)
def TN(w:aN)b(x y Nf Ud)(h1:w.cell? ⟨b,0,af⟩=ab x)(h2:w.cell? ⟨b,1,af⟩=ab y):
 ((w.setCell ⟨b,0,af⟩ Nf).setCell ⟨b,1,af⟩ Ud).cell? ⟨b,0,af⟩=ab Nf/\((w.setCell ⟨b,0,af⟩ Nf).setCell ⟨b,1,af⟩ Ud).cell? ⟨b,1,af⟩=ab Ud:=by
 have gp:=ahK w ⟨b,0,af⟩ Nf aG;constructor;·grind[ahJ]
 .refine ahK _ _ _ ?_;rw[ahJ];·grind
  .simp
def arV{a b c d lo hi}(h1:lo=max a c)(h2:hi=min (a+b) (c+d)):(if decide (hi -lo<1)=aB then gJ (0,0)else gJ (lo,hi -lo))=gJ (kM (a,b) (c,d))/\(!decide (hi -lo<1))=meets (a,b) (c,d):=by grind[kM,meets]
set_option maxHeartbeats 4000000 in
def Mw(a b c d)w(h1:eE (a,b))(h2:eE (c,d)):
 aD ax 202 #[av #[J R a,J R b],av #[J R c,J R d]] w λe w'=>e=aA (bh #[gJ (kM (a,b) (c,d)),aj (meets (a,b) (c,d))])/\ao w w':=by
 obtain⟨gp,a2,a3⟩:=h1;obtain⟨c1,c2,fG⟩:=h2;simp only at gp a2 a3 c1 c2 fG
 have bm:aE (∀lo hi W (r:Bool),lo=max a c->hi=min (a+b) (c+d)->aD _ 279 _ W λe w'=>e=aA _/\ao W w'):=hid (λlo hi W r ka yp=>by have h:=akh lo hi 1 W ae ae ae ae _ aa;obtain⟨bD,b9⟩:=arV (a:=a) (b:=b) (c:=c) (d:=d) ka yp;rw[bD,b9]at h;exact h);generalize meets (a,b) (c,d)=r at*;generalize kM (a,b) (c,d)=o at*;obtain⟨fb,eu⟩:=o
 have ca:aE (∀w',aq (λi=>i=w.heap.size+2) _ w'->w'.cell? _=ab _/\w'.cell? _=ab _/\w'.cell? _=ab (J R c)/\w'.cell? _=ab (J R d)):=hid (λw' hw'=>by have g1:=x5 w (J R a) (J R b) 35;have g2:=x5 (w.alloc (bf #[J R a,J R b] 35)) (J R c) (J R d) 35;rw[y9]at g2;have gi:=aq.alloc (F:=λi=>i=w.heap.size+2) (w.alloc (bf #[J R a,J R b] 35)) (bf #[J R c,J R d] 35);have fQ:=aq.alloc (F:=λi=>i=w.heap.size+2) ((w.alloc (bf #[J R a,J R b] 35)).alloc (bf #[J R c,J R d] 35)) (bf #[J R 0,J R 0] 35);have iM:=(gi.trans fQ (λ_ _ h=>h)).trans hw' (λ_ _ h=>h);have p3:=fQ.trans hw' (λ_ _ h=>h);exact⟨iM.cell g1.1 (by show¬w.heap.size=w.heap.size+2;omega),iM.cell g1.2 (by show¬w.heap.size=w.heap.size+2;omega),p3.cell g2.1 (by show¬w.heap.size+1=w.heap.size+2;omega),p3.cell g2.2 (by show¬w.heap.size+1=w.heap.size+2;omega)⟩)
 have F2:aE (∀w',aq (λ_=>False) _ w'->w'.frozen? ⟨w.heap.size+1+1,0,af⟩=au/\w'.frozen? ⟨w.heap.size+1+1,1,af⟩=au/\w'.cell? ⟨w.heap.size+1+1,0,af⟩=ab (J R 0)/\w'.cell? ⟨w.heap.size+1+1,1,af⟩=ab (J R 0)):=hid (λw' hw'=>by have g3:=ff ((w.alloc (bf #[J R a,J R b] 35)).alloc (bf #[J R c,J R d] 35)) (bf #[J R 0,J R 0] 35);rw[y9,y9]at g3;have g4:=hw'.heap g3 (λh=>h);exact⟨by simp[uO,g4],by simp[uO,g4],by simp[y8,g4],by simp[y8,g4]⟩);go_enter func202,ntmps202;go_wp2_with fail;have Dd:aE (ao w (((w.alloc (bf #[J R a,J R b] 35)).alloc (bf #[J R c,J R d] 35)).alloc (bf #[J R 0,J R 0] 35))):=hid (ao.trans (aq.alloc _ _) (ao.trans (aq.alloc _ _) (aq.alloc _ _)));generalize ((w.alloc (bf #[J R a,J R b] 35)).alloc (bf #[J R c,J R d] 35)).alloc (bf #[J R 0,J R 0] 35)=an at*;generalize K3:w.heap.size=B at*;have kU:aE (∀w',aq (λi=>i=B+1+1) an w'->w'.cell? _=ab _/\w'.cell? _=ab _/\w'.cell? _=ab _/\w'.cell? _=ab _):=hid ca.out;have xK:aE (∀w',ao an w'->w'.frozen? _=au/\w'.frozen? _=au/\w'.cell? _=ab _/\w'.cell? _=ab _):=hid F2.out
 have J2:aE (∀w',ao an w'->∀u v,((w'.setCell _ u).setCell _ v).cell? _=ab _/\((w'.setCell _ u).setCell _ v).cell? _=ab _/\((w'.setCell _ u).setCell _ v).cell? _=ab _/\((w'.setCell _ u).setCell _ v).cell? _=ab _):=hid (λw' h u v=>
  kU.out _ ((h.mono (G:=λi=>i=B+1+1) (λ_ _ h=>h.elim)).trans ((aq.setCell (F:=λi=>i=B+1+1) w' (p:=⟨_,0,af⟩) aa u).trans (aq.setCell (F:=λi=>i=B+1+1) _ (p:=⟨_,1,af⟩) aa v) (λ_ _ h=>h)) (λ_ _ h=>h)))
 have JP:aE (∀w',ao an w'->∀u v,ao w _):=hid (λw' h u v=>by have q:=((ao.trans Dd.out h).mono (G:=λi=>i=B+1+1) (λ_ _ h=>h.elim)).trans ((aq.setCell (F:=λi=>i=B+1+1) w' (p:=⟨_,0,af⟩) aa u).trans (aq.setCell (F:=λi=>i=B+1+1) _ (p:=⟨_,1,af⟩) aa v) (λ_ _ h=>h)) (λ_ _ h=>h);exact q.mono (λi hi h=>ae))
 have JI:aE (∀w',ao an w'->((w'.setCell _ _).setCell _ _).cell? _=ab _/\((w'.setCell _ (J R fb)).setCell _ _).cell? _=ab (J R eu)):=hid (λw' h=>by obtain⟨_,_,Ad,n4⟩:=xK.out w' h;exact TN w' _ _ _ _ _ Ad n4);clear ca F2;rcases(show a<c\/¬a<c by omega)with Rt|Rt<;>rcases(show c+d<a+b\/¬c+d<a+b by omega)with hab|hab
 .go_region_held3 (λw'=>w'.cell? ⟨B,0,af⟩=ab (J R a)/\w'.cell? ⟨B,1,af⟩=ab (J R b)/\w'.cell? ⟨B+1,0,af⟩=ab (J R c)/\w'.cell? ⟨B+1,1,af⟩=ab (J R d))
   (first
     |exact kU.out _ (aq.drew _)
     |exact kU.out _ (hc.mono (λ_ _ h=>h.elim))
     |exact J2.out _ hc _ _
     |exact kU.out _ (hb.mono (λ_ _ h=>h.elim))
     |exact kU.out _ (ha.mono (λ_ _ h=>h.elim)))
   (first
     |(go_at_call 279;have b2:=bm.out (c) (c+d) pb aB ae ae;with_reducible refine b2.mono ?_;clear b2;rintro e wc ⟨rfl,hc0⟩;have hc:ao an wc:=ao.trans hb hc0;obtain⟨qL,lB,Ad,n4⟩:=xK.out wc hc)
     |(go_at_call 117;have b2:=lN c d ja c1 c2 fG;with_reducible refine b2.mono ?_;clear b2;rintro e pb ⟨rfl,hb0⟩;have hb:ao an pb:=ao.trans ha hb0)
     |(go_at_call 117;refine(lN a b _ gp a2 a3).mono ?_;rintro e ja ⟨rfl,ha0⟩;have ha:ao an ja:=ao.trans (aq.drew _) ha0))
  all_goals
   go_wp2;(try simp only[FB,Exit.then]);obtain⟨gI,DJ⟩:=JI.out wc hc;refine dp (v:=bh #[_,_]) ?_ aa ⟨aa,JP.out wc hc _ _⟩;rw[AV aa];go_simp
 .have an4:=eq_false hab
  go_region_held3 (λw'=>w'.cell? ⟨B,0,af⟩=ab (J R a)/\w'.cell? ⟨B,1,af⟩=ab (J R b)/\w'.cell? ⟨B+1,0,af⟩=ab (J R c)/\w'.cell? ⟨B+1,1,af⟩=ab (J R d))
   (first
     |exact kU.out _ (aq.drew _)
     |exact kU.out _ (hc.mono (λ_ _ h=>h.elim))
     |exact J2.out _ hc _ _
     |exact kU.out _ (hb.mono (λ_ _ h=>h.elim))
     |exact kU.out _ (ha.mono (λ_ _ h=>h.elim)))
   (first
     |(go_at_call 279;have b2:=bm.out (c) (a+b) pb aB ae ae;with_reducible refine b2.mono ?_;clear b2;rintro e wc ⟨rfl,hc0⟩;have hc:ao an wc:=ao.trans hb hc0;obtain⟨qL,lB,Ad,n4⟩:=xK.out wc hc)
     |(go_at_call 117;have b2:=lN c d ja c1 c2 fG;with_reducible refine b2.mono ?_;clear b2;rintro e pb ⟨rfl,hb0⟩;have hb:ao an pb:=ao.trans ha hb0)
     |(go_at_call 117;refine(lN a b _ gp a2 a3).mono ?_;rintro e ja ⟨rfl,ha0⟩;have ha:ao an ja:=ao.trans (aq.drew _) ha0))
  all_goals
   go_wp2;(try simp only[FB,Exit.then]);obtain⟨gI,DJ⟩:=JI.out wc hc;refine dp (v:=bh #[_,_]) ?_ aa ⟨aa,JP.out wc hc _ _⟩;rw[AV aa];go_simp
 .have an5:=eq_false Rt
  go_region_held3 (λw'=>w'.cell? ⟨B,0,af⟩=ab (J R a)/\w'.cell? ⟨B,1,af⟩=ab (J R b)/\w'.cell? ⟨B+1,0,af⟩=ab (J R c)/\w'.cell? ⟨B+1,1,af⟩=ab (J R d))
   (first
     |exact kU.out _ (aq.drew _)
     |exact kU.out _ (hc.mono (λ_ _ h=>h.elim))
     |exact J2.out _ hc _ _
     |exact kU.out _ (hb.mono (λ_ _ h=>h.elim))
     |exact kU.out _ (ha.mono (λ_ _ h=>h.elim)))
   (first
     |(go_at_call 279;have b2:=bm.out (a) (c+d) pb aB ae ae;with_reducible refine b2.mono ?_;clear b2;rintro e wc ⟨rfl,hc0⟩;have hc:ao an wc:=ao.trans hb hc0;obtain⟨qL,lB,Ad,n4⟩:=xK.out wc hc)
     |(go_at_call 117;have b2:=lN c d ja c1 c2 fG;with_reducible refine b2.mono ?_;clear b2;rintro e pb ⟨rfl,hb0⟩;have hb:ao an pb:=ao.trans ha hb0)
     |(go_at_call 117;refine(lN a b _ gp a2 a3).mono ?_;rintro e ja ⟨rfl,ha0⟩;have ha:ao an ja:=ao.trans (aq.drew _) ha0))
  all_goals
   go_wp2;(try simp only[FB,Exit.then]);obtain⟨gI,DJ⟩:=JI.out wc hc;refine dp (v:=bh #[_,_]) ?_ aa ⟨aa,JP.out wc hc _ _⟩;rw[AV aa];go_simp
 .have an5:=eq_false Rt;have an4:=eq_false hab
  go_region_held3 (λw'=>w'.cell? ⟨B,0,af⟩=ab (J R a)/\w'.cell? ⟨B,1,af⟩=ab (J R b)/\w'.cell? ⟨B+1,0,af⟩=ab (J R c)/\w'.cell? ⟨B+1,1,af⟩=ab (J R d))
   (first
     |exact kU.out _ (aq.drew _)
     |exact kU.out _ (hc.mono (λ_ _ h=>h.elim))
     |exact J2.out _ hc _ _
     |exact kU.out _ (hb.mono (λ_ _ h=>h.elim))
     |exact kU.out _ (ha.mono (λ_ _ h=>h.elim)))
   (first
     |(go_at_call 279;have b2:=bm.out (a) (a+b) pb aB ae ae;with_reducible refine b2.mono ?_;clear b2;rintro e wc ⟨rfl,hc0⟩;have hc:ao an wc:=ao.trans hb hc0;obtain⟨qL,lB,Ad,n4⟩:=xK.out wc hc)
     |(go_at_call 117;have b2:=lN c d ja c1 c2 fG;with_reducible refine b2.mono ?_;clear b2;rintro e pb ⟨rfl,hb0⟩;have hb:ao an pb:=ao.trans ha hb0)
     |(go_at_call 117;refine(lN a b _ gp a2 a3).mono ?_;rintro e ja ⟨rfl,ha0⟩;have ha:ao an ja:=ao.trans (aq.drew _) ha0))
  all_goals
   go_wp2;(try simp only[FB,Exit.then]);obtain⟨gI,DJ⟩:=JI.out wc hc;refine dp (v:=bh #[_,_]) ?_ aa ⟨aa,JP.out wc hc _ _⟩;rw[AV aa];go_simp
end Go.Proofs.YtcmhplknoglbkaaGreat
