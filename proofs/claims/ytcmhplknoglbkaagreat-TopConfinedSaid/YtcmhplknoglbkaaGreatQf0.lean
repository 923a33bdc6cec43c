/- Part 0 of the proof of TopConfinedSaid. -/
import Derived.WalkKit
import Derived.WalkSpells
import Derived.WalkLawsBesides
import Derived.Maps.RangeWalk
import Derived.OneCell
import Derived.BigQuiet
import Derived.Deep.QuietTactic
import Derived.Test.YtcmhplknoglbkaaGreatProg
import Derived.Deep.RegionHeld3
import Derived.Laws.ResultCell
set_option linter.all false
set_option maxRecDepth 100000
set_option maxHeartbeats 4000000
open Go.Proofs.Tryz
open Bool renaming false->ao,true->az
open Go renaming Calls->aC,Value->aO,World->aP,bodyPost_ret->c8,cell_of_row->fH,heap_alloc_new->fO,results_cell_tmp->BW,run_underlying->gO
open Go.ChangeMaps renaming heap_setBlock_other->DW,heap_setBlock_same->DX,modify_eq_set->ah1,setBlock->la
open Go.Ending renaming returned->aB
open Go.Exit renaming inBlock->GC
open Go.Instr renaming findKey->ah7,lookup->qN,mapUpdate->DZ
open Go.IntKind renaming i64->R
open Go.MapKept renaming run_getObj_map->zS,run_setObj_map->GH,stamped_iff->Pe
open Go.Obj renaming cells->bp,map->iT
open Go.Proofs.Tryz renaming func115->Ph,func96->Po,ntmps115->Pq,ntmps96->Pu,prog->ax
open Go.Result renaming andThen->KV
open Go.RowKit renaming Hid->aE
open Go.Value renaming agg->ar,bool->ai,int->J,tuple->bo
open Go.World renaming cell?->zW,cell?_setCell_other->ake,cell?_setCell_same'->akf,frozen?->wK,size_alloc->zX
open List renaming find?_cons->alW,mem_map->gQ,pairwise_iff_getElem->mv,pairwise_map->yJ
open Nat renaming le_refl->b7
open Option renaming none->af,some->ab
namespace Go.Proofs.YtcmhplknoglbkaaGreat
theorem aa{α:Sort _}{a:α}:a=a:=rfl
def ex{α : Sort _}(x : α): ∃ z, x = z := ⟨x, rfl⟩
def ad{p:Prop}(h:p:=by omega):p:=h
def aw{p:Prop}(h:p:=by kernel_rfl):p:=h
def bc{p:Prop}(h:p:=by simp):p:=h
def aS{p:Prop}(h:p:=by decide):p:=h
def ba{p:Prop}(h:p:=by rfl):p:=h
def aG{p:Prop}(h:p:=by grind):p:=h
section
open Go.RowKit Go.MapKept
open Go.ChangeMaps (setBlock heap_setBlock_same heap_setBlock_other)
open Go.Maps (Keyed)
theorem hid{p}(h:p):aE p:=h
def DC{P f args}{w:aP}{n v}(h:aC P f args (w.drewN n) λe w'=>e=aB v/\w.drewN n=w'):
 aC P f args (w.drewN n) λe Ou=>e=aB v/\∃m,Ou=w.drewN m:=
 h.mono λ_ _ ⟨he,hm⟩=>⟨he,n,hm.symm⟩
def F6{P f args}{w:aP}{a n v}(h:aC P f args (w.drewN (a+n)) λe w'=>e=aB v/\w.drewN (a+n)=w'):
 aC P f args (w.drewN (a+n)) λe Ou=>e=aB v/\∃m,Ou=w.drewN (a+m):=
 h.mono λ_ _ ⟨he,hm⟩=>⟨he,n,hm.symm⟩
structure av (F:Nat->Prop) (w w':aP):Prop where
 os:w'.os=w.os
 tape:w'.tape=w.tape
 output:w'.output=w.output
 size:w.heap.size<=w'.heap.size
 block:∀k,k<w.heap.size->¬F k->w'.heap[k]?=w.heap[k]?
section
variable {F G:Nat->Prop} {w w' a b c:aP}
theorem av.refl F w:av F w w:=⟨rfl,rfl,rfl,b7 _,λ_ _ _=>rfl⟩
theorem av.mono(h:av F w w')(aqs:∀k,k<w.heap.size->F k->G k):av G w w':=⟨h.os,h.tape,h.output,h.size,λk hk hn=>h.block k hk (λhf=>hn (aqs k hk hf))⟩
theorem av.trans(h:av F a b)(k:av G b c)(fE:∀i,i<a.heap.size->G i->F i):av F a c:=
 ⟨k.os.trans h.os,k.tape.trans h.tape,k.output.trans h.output,Nat.le_trans h.size k.size,λi hi hn=>(k.block i (Nat.lt_of_lt_of_le hi h.size) (λhg=>hn (fE i hi hg))).trans (h.block i hi hn)⟩
def av.alloc w o:av F w (w.alloc o):=⟨rfl,rfl,rfl,bc,λk hk _=>Below.heap_alloc w o k hk⟩
def av.drew w:av F w w.drew:=⟨rfl,rfl,rfl,b7 _,λ_ _ _=>rfl⟩
def av.drewN w n:av F w (w.drewN n):=⟨rfl,rfl,rfl,b7 _,λ_ _ _=>rfl⟩
def av.ax0(h:av F w.drew w'):av F w w':=⟨h.os,h.tape,h.output,h.size,h.block⟩
def av.of_grownBy{row}(h:w.grownBy w' row)(hr:∀k,row=ab k->F k\/w.heap.size<=k):av F w w':=
 ⟨h.os,h.tape,h.output,h.size,λk hk hn=>h.block k hk (λe=>aG)⟩
def av.NI{B}(h:Below B w w')(kn:w.heap.size<=B):av F w w':=⟨h.os,h.tape,h.output,h.size,λk hk _=>h.block k ad⟩
theorem av.setCell w{p}(hp:F p.block)u:av F w (w.setCell p u):=
 ⟨rfl,rfl,rfl,bc,λk _ hn=>Below.heap_setCell w p u k (λe=>hn (e▸hp))⟩
theorem av.below{B}(h:av F w w')(kn:B<=w.heap.size)(hF:∀k,k<B->¬F k):Below B w w':=⟨h.os,h.tape,h.output,h.size,λk hk=>h.block k ad (hF k hk)⟩
theorem av.heap(h:av F w w'){k o}(hk:w.heap[k]?=ab o)(hn:¬F k):w'.heap[k]?=ab o:=
 (h.block k (Array.getElem?_eq_some_iff.1 hk).1 hn).trans hk
theorem av.cell(h:av F w w'){p v}(hp:w.cell? p=ab v)(hn:¬F p.block):w'.cell? p=ab v:=
 (World.cell?_of_block (w:=w) (h.block p.block (World.block_lt_of_cell? w p hp) hn)).trans hp
end
abbrev au(w w':aP):Prop:=av (λ_=>False) w w'
def au.to{F w w'}(h:au w w'):av F w w':=h.mono (λ_ _ hf=>hf.elim)
theorem au.below{w w'}(h:au w w'):Below w.heap.size w w':=by grind[av.below]
theorem au.trans{a b c}(h:au a b)(k:au b c):au a c:=by grind[av.trans]
def dy(w:aP)(A:Option Addr)(xs:List Int):Prop:=
 0<xs.length->∃b off,A=ab ⟨b,off,af⟩/\∀j,j<xs.length->w.cell? ⟨b,off+j,af⟩=ab (J R (xs[j]?.getD 0))
theorem dy.nil{w A}:dy w A []:=λh=>absurd h bc
def dy.only{F w w' A xs}(h:dy w A xs)(k:av F w w')(hn:∀b off,A=ab ⟨b,off,af⟩->¬F b):dy w' A xs:=λhp=>by obtain⟨b,off,rfl,hc⟩:=h hp;exact⟨b,_,rfl,λj hj=>k.cell (hc j hj) (hn b _ rfl)⟩
def dy.aH{w w' A xs}(h:dy w A xs)(k:au w w'):dy w' A xs:=h.only k (λ_ _ _ hf=>hf)
theorem dy.ow{w}{base e n c:Nat}{A xs}(h:w.ownsRow base e 1 (.slice A n c) n (xs.map (J R))):dy w A xs:=λhp=>by
 have hn:=by simpa using h.1.symm
 rcases h.2 with⟨hv,h0⟩|⟨g,cap,cur,hv,hb,hg,ka,hcm,hcs,ht⟩;·omega
 .injection hv with h1 h2 h3;subst h1;refine⟨g,0,rfl,λj hj=>?_⟩;have hc:=h.cells (g:=g) rfl j (J R (xs[j]?.getD 0)) aG;grind[Addr.add]
def kS(w:aP)(A:Option Addr)(E:List (Int×Int)):Prop:=
 0<E.length->∃b off,A=ab ⟨b,off,af⟩/\∀j,j<E.length->w.cell? ⟨b,off+j*2,af⟩=ab (J R (E[j]?.getD (0,0)).1)/\w.cell? ⟨b,off+j*2+1,af⟩=ab (J R (E[j]?.getD (0,0)).2)
def kS.only{F w w' A E}(h:kS w A E)(k:av F w w')(hn:∀b off,A=ab ⟨b,off,af⟩->¬F b):kS w' A E:=λhp=>by obtain⟨b,off,rfl,hc⟩:=h hp;exact⟨b,_,rfl,λj hj=>⟨k.cell (hc j hj).1 (hn b _ rfl),k.cell (hc j hj).2 (hn b _ rfl)⟩⟩
def kS.aH{w w' A E}(h:kS w A E)(k:au w w'):kS w' A E:=h.only k (λ_ _ _ hf=>hf)
section
variable {fx:Type} [DecidableEq fx]
structure sT (P:Program) (k:TypeId) (enc:fx->aO) (ok:fx->Prop):Prop where
 keyed:Keyed P k
 reads:∀{x},ok x->∃l,keyOf P k (enc x)=ab l
 inj:∀{x y},enc x=enc y->x=y
def ee(w:aP)(b:Nat)(enc:fx->aO)(ok:fx->Prop)(bq:List (fx×aO)):Prop:=
 ∃es clock,w.heap[b]?=ab (iT es clock)/\Stamped es clock/\es.size<=maxLen/\es.toList.map (λe=>(e.key,e.val))=bq.map (λp=>(enc p.1,p.2))/\∀p∈bq,ok p.1
def en(bq:List (fx×aO))(x:fx):Option Value:=(bq.find? (λp=>decide (p.1=x))).map (·.2)
def sx(bq:List (fx×aO))(x:fx):Bool:=bq.any (λp=>decide (p.1=x))
def kc(bq:List (fx×aO))(x:fx)(v:aO):List (fx×aO):=
 if sx bq x then bq.map (λp=>if p.1=x then(x,v)else p)else bq++[(x,v)]
def A3(bq:List (fx×aO))(x:fx):List (fx×aO):=bq.filter (λp=>!decide (p.1=x))
variable {P:Program} {k:TypeId} {enc:fx->aO} {ok:fx->Prop} {w w':aP} {b:Nat} {bq:List (fx×aO)}
omit [DecidableEq fx]in
def ee.lt(h:ee w b enc ok bq):b<w.heap.size:=by obtain⟨es,clock,hb,_⟩:=h;grind
omit [DecidableEq fx]in
def ee.only{F}(h:ee w b enc ok bq)(k:av F w w')(hn:¬F b):ee w' b enc ok bq:=by obtain⟨es,clock,hb,r⟩:=h;exact⟨es,_,k.heap hb hn,r⟩
omit [DecidableEq fx]in
def ee.made(w:aP)enc(ok:fx->Prop):ee (w.alloc (iT #[] 0)) w.heap.size enc ok []:=
 ⟨#[],0,(MapKept.heap_alloc w _).1,stamped_empty 0,bc,bc,bc⟩
theorem Nz{bq}{x:fx}:en bq x=af↔∀p∈bq,p.1≠x:=by simp[en]
theorem sw{bq}{x:fx}{v}(h:en bq x=ab v):(x,v)∈bq:=by
 unfold en at h;cases hf:bq.find? (λp=>decide (p.1=x))with
 |none=>grind
 |some p=>grind
theorem I8{bq}{x:fx}:sx bq x=az↔∃p∈bq,p.1=x:=by simp[sx]
theorem I9{bq}{x:fx}:sx bq x=(en bq x).isSome:=by grind[sx,en]
omit [DecidableEq fx]in
def ee.nodup(h:ee w b enc ok bq):bq.Pairwise (λp q=>p.1≠q.1):=by obtain⟨es,clock,_,hs,_,he,_⟩:=h;have h3:=((Pe es _).1 hs).2.2;have h4:(es.toList.map (λe=>(e.key,e.val))).Pairwise (λp q=>p.1≠q.1):=yJ.2 h3;rw[he,yJ]at h4;exact h4.imp (λhne e=>hne (by rw[e]))
def xC{bq}(hd:bq.Pairwise (λp q=>p.1≠q.1)){x:fx}{v}(h:(x,v)∈bq):en bq x=ab v:=by
 induction bq with
 |nil=>grind
 |cons p r ck=>grind[List.pairwise_cons,en]
theorem TQ bq(x:fx)v y:en (kc bq x v) y=if y=x then ab v else en bq y:=by
 unfold kc;by_cases hh:sx bq x=az
 .rw[if_pos hh];unfold en;induction bq with
  |nil=>grind[sx]
  |cons p r ck=>
   rw[List.map_cons,alW,alW];by_cases hp:p.1=x
   .rw[if_pos hp];by_cases hy:y=x;·grind
    .have:¬x=y:=λe=>hy e.symm;have h2:¬p.1=y:=λe=>hy (e▸hp);simp only[this,decide_false,h2,if_neg hy];by_cases hr:sx r x=az;·grind
     .have:r.map (λp=>if p.1=x then(x,v)else p)=r:=by
       conv=>rhs;rw[<-List.map_id r]
       grind[List.map_congr_left,I8]
      rw[this]
   grind[I8]
 grind[en,I8]
theorem A5{bq}{x:fx}{v p}(h:p∈kc bq x v):p=(x,v)\/(p∈bq/\p.1≠x):=by grind[kc,I8]
def aej bq(x:fx)v:(kc bq x v).length<=bq.length+1:=by grind[kc]
theorem NA{bq}{x:fx}v(h:sx bq x=ao):kc bq x v=bq++[(x,v)]:=by grind[kc]
def ee.find(C:sT P k enc ok)(h:ee w b enc ok bq){x}(hx:ok x):∃es clock,w.heap[b]?=ab (iT es clock)/\Stamped es clock/\es.size=bq.length/\es.toList.map (λe=>(e.key,e.val))=bq.map (λp=>(enc p.1,p.2))/\
 (((∀w1:aP,(ah7 k (enc x) es.toList).run P w1=.ok af w1)/\(∀e∈es.toList,e.key≠enc x)/\en bq x=af)\/
   ∃j e,(∀w1:aP,(ah7 k (enc x) es.toList).run P w1=.ok (ab (j,e.val)) w1)/\es[j]?=ab e/\e.key=enc x/\en bq x=ab e.val/\bq[j]?=ab (x,e.val)):=by
 have eB:=h.nodup;obtain⟨es,clock,hb,hs,hz,he,c0⟩:=h;obtain⟨Nv,hlx⟩:=C.reads hx;have hlen:=by have:=congrArg List.length he;simpa using this
 have SN:∀e∈es.toList,∃l,keyOf P k e.key=ab l:=λe xj=>by have:(e.key,e.val)∈es.toList.map (λe=>(e.key,e.val)):=gQ.2 ⟨e,xj,rfl⟩;rw[he]at this;obtain⟨p,hp,AY⟩:=gQ.1 this;simp at AY;rw[<-AY.1];exact C.reads (c0 p hp)
 refine⟨es,_,hb,hs,hlen,he,?_⟩;rcases C.keyed.find w hlx es.toList SN with⟨h1,h2⟩|⟨j,dM,h1,h2,h3⟩
 .refine .inl ⟨λw1=>?_,h2,Nz.2 (λp hp Ta=>?_)⟩
  .rcases C.keyed.find w1 hlx es.toList SN with⟨R',_⟩|⟨j,dM,_,hj,h3⟩;·omega
   grind
  .have:(enc p.1,p.2)∈bq.map (λp=>(enc _,p.2)):=gQ.2 ⟨p,hp,rfl⟩;grind
 .have hk:bq[j]?=ab (x,dM.val):=by
   have h5:(es.toList.map (λe=>(e.key,e.val)))[j]?=ab (dM.key,dM.val):=aG;rw[he,List.getElem?_map]at h5;cases hq:bq[j]? with
   |none=>grind
   |some q=>
    rw[hq]at h5;simp at h5;rw[h3]at h5;have bF:=C.inj h5.1;rw[<-bF,<-h5.2]
  refine .inr ⟨j,dM,λw1=>?_,aG,h3,xC eB (List.mem_of_getElem? hk),hk⟩;rcases C.keyed.find w1 hlx es.toList SN with⟨_,hno⟩|⟨aB4,kl,R',Sb,Sc⟩;·grind
  grind[Pe,mv]
def ee.lookup{t e}(C:sT P k enc ok)(ht:P.underlying t=ab (.map k e)){z}(hz:∀w:aP,(zeroValue e).run P w=.ok z w)(h:ee w b enc ok bq){x}(hx:ok x):
 (qN t (.map (ab b)) (enc x) ao).run P w=.ok ((en bq x).getD z) w/\
 (qN t (.map (ab b)) (enc x) az).run P w=.ok (bo #[(en bq x).getD z,ai (en bq x).isSome]) w:=by
 obtain⟨Nv,hlx⟩:=C.reads hx;obtain⟨es,clock,hb,hs,hsz,he,hf⟩:=h.find C hx;rcases hf with⟨h1,h2,h3⟩|⟨j,dM,h1,h2,h3,h4,h5⟩;·constructor<;>simp[qN,gO ht,zS hb,C.keyed.check w _ hlx,h1,hz w,KV,h3]
 .constructor<;>simp[qN,gO ht,zS hb,C.keyed.check w _ hlx,h1,KV,h4]
def ee.update{t e}(C:sT P k enc ok)(ht:P.underlying t=ab (.map k e))(h:ee w b enc ok bq)(hn:bq.length<maxLen){x}(hx:ok x)v:
 ∃w',(DZ t (.map (ab b)) (enc x) v).run P w=.ok () w'/\ee w' b enc ok (kc bq x v)/\w.grownBy w' (ab b)/\w'.heap.size=w.heap.size:=by
 obtain⟨Nv,hlx⟩:=C.reads hx;have eB:=h.nodup;have c0:∀p∈bq,ok p.1:=by obtain⟨_,_,_,_,_,_,c0⟩:=h;exact c0
 obtain⟨es,clock,hb,hs,hsz,he,hf⟩:=h.find C hx;rcases hf with⟨h1,h2,h3⟩|⟨j,dM,h1,h2,h3,h4,h5⟩
 .have hh:sx bq x=false:=by grind[I9]
  refine⟨la w b (iT (es.push ⟨enc x,v,clock⟩) (clock+1)),?_,⟨_,_,DX hb _,stamped_push hs h2,aG,?_,?_⟩,⟨rfl,rfl,rfl,by simp[la],λi _ hi=>DW hb _ (λe=>hi (by rw[e]))⟩,by simp[la]⟩;·simp[DZ,gO ht,zS hb,C.keyed.check w ao hlx,h1,GH _ hb,la]
  .grind[NA]
  .intro p hp;rcases A5 hp with rfl|⟨hp,_⟩;·omega
   .grind
 .have hh:sx bq x=true:=by grind[I9]
  have SM:∀kl,es[j]?=ab kl->({kl with key:=enc x,val:=v}:MapEntry).key=kl.key:=λkl CS=>by grind
  refine⟨la w b (iT (es.modify j (λkl=>{kl with key:=enc x,val:=v})) clock),?_,⟨_,_,DX hb _,stamped_modify hs _ _ (λ_ _=>rfl) (λkl _ CS=>SM kl CS),aG,?_,?_⟩,⟨rfl,rfl,rfl,by simp[la],λi _ hi=>DW hb _ (λe=>hi (by rw[e]))⟩,by simp[la]⟩;·simp[DZ,gO ht,zS hb,C.keyed.check w ao hlx,h1,h2,h3,C.keyed.stays w hlx,GH _ hb,la]
  .have hj:es.toList[j]?=ab dM:=aG;rw[Array.toList_modify,ah1 _ _ _ _ hj,List.map_set,he];unfold kc;rw[if_pos hh];apply List.ext_getElem?;grind[mv]
  .intro p hp;rcases A5 hp with rfl|⟨hp,_⟩;·omega
   .grind
def JP {t e ops rest o a Q} (hg:o.guard=af) (m x v) (hop:o.op=Op.mapUpdate t m x v)
 (C:sT P k enc ok) (ht:P.underlying t=ab (.map k e)) (h:ee w b enc ok bq) (hn:bq.length<maxLen) (hm:a.eval m=.map (ab b)) {y} (hy:ok y) (hx:a.eval x=enc y) val (hv:a.eval v=val)
 (hK:∀w',ee w' b enc ok (kc bq y val)->w.grownBy w' (ab b)->w'.heap.size=w.heap.size->wpList P ops Q rest (a.put o.dst undef) w'):wpList P ops Q (o::rest) a w:=by
 refine wpList_plain hg λyF hK'=>?_;obtain⟨w',hrun,fa,fU,ks⟩:=h.update C ht hn hy val;unfold Oper.wp;simp[execOp,hop,hm,hx,hv,hrun];exact hK' _ _ (hK w' fa fU ks)
end
end
open Go.RowKit Go.MapKept
def cN(x:Int):Prop:=-9223372036854775808<=x/\x<=9223372036854775807
def rB(e:Int×Int):Prop:=cN e.1/\cN e.2
def eX(e:Int×Int):Prop:=0<=e.1/\0<=e.2/\e.1+e.2<=4611686018427387903
abbrev gT(e:Int×Int):Value:=ar #[J R e.1,J R e.2]
def mh(a b:Int×Int):Int×Int:=if max a.1 b.1<min (a.1+a.2) (b.1+b.2)then(max a.1 b.1,min (a.1+a.2) (b.1+b.2) -max a.1 b.1)else(0,0)
def meets(a b:Int×Int):Bool:=decide (max a.1 b.1<min (a.1+a.2) (b.1+b.2))
def yU(w:aP)(x y)t:(w.alloc (bp #[x,y] t)).cell? ⟨w.heap.size,0,af⟩=ab x/\(w.alloc (bp #[x,y] t)).cell? ⟨w.heap.size,1,af⟩=ab y:=
 ⟨fH _ _ 0 _ _ _ (fO w _),fH _ _ 1 _ _ _ (fO w _)⟩
def l5(a b)w(h1:0<=a)(h2:0<=b)(h3:a+b<=4611686018427387903):
 aC ax 117 #[ar #[J R a,J R b]] w λe w'=>e=aB (J R (a+b))/\au w w':=by
 go_enter func117,ntmps117;go_wp2;go_ret;exact⟨aa,av.alloc _ _⟩
def lC(e:Int×Int):Bool:=decide (0<=e.1)&&(decide (0<=e.2)&&decide (e.1+e.2<=4611686018427387903))
theorem Gk{e}:lC e=az↔eX e:=by simp[lC,eX]
def JK{a b}(h:¬eX (a,b)):lC (a,b)=false:=by grind[Gk]
def agU(a b)w(ha:cN a)(hb:cN b):
 aC ax 115 #[ar #[J R a,J R b]] w λe w'=>e=aB (ai (lC (a,b)))/\au w w':=by
 obtain⟨ha1,ha2⟩:=ha;obtain⟨hb1,hb2⟩:=hb;by_cases h0:a<0\/b<0
 .rw[JK (λh=>by have h1:=h.1;have h2:=h.2.1;simp only at h1 h2;omega)];by_cases hle:a<=b;·have h1:a<0:=ad;clear h0;go_enter Ph,Pq;go_wp2;go_ret;exact⟨aa,av.alloc _ _⟩
  .have h1:b<0:=ad;clear h0;go_enter Ph,Pq;go_wp2;go_ret;exact⟨aa,av.alloc _ _⟩
 .have Ft:0<=a:=ad;have o0:0<=b:=ad;by_cases h4:4611686018427387903<a;·rw[JK (λh=>by have h1:=h.2.2;simp only at h1;omega)];have h5:decide (a<=4611686018427387903)=false:=aG;clear h0;go_enter Ph,Pq;go_wp2;all_goals(go_ret;exact⟨aa,av.alloc _ _⟩)
  .have h5:decide (a<=4611686018427387903)=true:=aG;have h6:0<=a:=ad;have h7:a<=4611686018427387903:=ad;obtain⟨r,hr⟩:∃r,decide (b<=4611686018427387903 -a)=r:=⟨_,aa⟩;have cP:aE (lC (a,b)=r):=hid (by grind[lC]);rw[cP.out];clear h0 h4 cP;go_enter Ph,Pq;go_wp2;all_goals(go_ret;exact⟨aa,av.alloc _ _⟩)
def FT w:aC ax 112 #[] w λe w'=>e=aB (J R 4611686018427387903)/\w=w':=by go_enter func112,ntmps112;go_wp2;go_ret;exact⟨aa,aa⟩
def am5(lo hi least)w(h1:-4611686018427387904<=lo)(h2:lo<=4611686018427387903)(h3:-4611686018427387904<=hi)(h4:hi<=4611686018427387903)r(hr:decide (hi -lo<least)=r):
 aC ax 279 #[J R lo,J R hi,J R least] w λe w'=>e=aB (bo #[if r=az then gT (0,0)else gT (lo,hi -lo),ai (!r)])/\au w w':=by
 cases r
 all_goals
  go_enter func279,ntmps279;go_wp2;(try simp only[GC,Exit.then]);refine c8 (v:=bo #[_,_]) ?_ aa ⟨aa,av.alloc _ _⟩;rw[BW aa];go_simp
def abt(a b at_)w(h:eX (a,b))r(hr:decide (a<=at_/\at_<a+b)=r):
 aC ax 244 #[ar #[J R a,J R b],J R at_] w λe w'=>e=aB (ai r)/\au w w':=by
 obtain⟨h1,h2,h3⟩:=h;simp only at h1 h2 h3;by_cases h0:a<=at_;·have h4:decide (a<=at_)=true:=aG;have h5:decide (at_<a+b)=r:=aG;clear hr h0;go_enter Tryz.func244,Tryz.ntmps244;go_wp2;go_ret;exact⟨aa,av.alloc _ _⟩
 .have h4:decide (a<=at_)=false:=aG;obtain rfl:r=false:=aG;clear hr h0;go_enter Tryz.func244,Tryz.ntmps244;go_wp2;go_ret;exact⟨aa,av.alloc _ _⟩
def N8(a b)w(ha:cN a)(hb:cN b):
 aC ax 96 #[ar #[J R a,J R b]] w λe w'=>e=aB (ai (lC (a,b)))/\au w w':=by
 obtain⟨ha1,ha2⟩:=ha;obtain⟨hb1,hb2⟩:=hb;by_cases h0:0<=a
 .have d0:decide (0<=a)=true:=aG;by_cases h1:0<=b
  .have d1:decide (0<=b)=true:=aG;by_cases h4:a<=4611686018427387903;·have d4:decide (a<=4611686018427387903)=true:=aG;obtain⟨r,hr⟩:∃r,decide (b<=4611686018427387903 -a)=r:=⟨_,aa⟩;have cP:aE (lC (a,b)=r):=hid (by grind[lC]);rw[cP.out];clear cP;go_enter Po,Pu;go_wp2_with fail;go_quiet ((go_at_call 112;(first|exact DC (FT _)|exact F6 (FT _))));go_wp2;go_ret;exact⟨aa,au.trans (av.alloc _ _) (av.drewN _ _)⟩
   .have d4:decide (a<=4611686018427387903)=false:=aG;rw[JK (λh=>by have h1:=h.2.2;simp only at h1;omega)];go_enter Po,Pu;go_wp2_with fail;go_quiet ((go_at_call 112;(first|exact DC (FT _)|exact F6 (FT _))));go_wp2;go_ret;exact⟨aa,au.trans (av.alloc _ _) (av.drewN _ _)⟩
  .have d1:decide (0<=b)=false:=aG;rw[JK (λh=>by have h1:=h.2.1;simp only at h1;omega)];go_enter Po,Pu;go_wp2_with fail;go_quiet (fail);go_wp2;go_ret;exact⟨aa,au.trans (av.alloc _ _) (av.drewN _ _)⟩
 .have d0:decide (0<=a)=false:=aG;rw[JK (λh=>by have h1:=h.1;simp only at h1;omega)];go_enter Po,Pu;go_wp2_with fail;go_quiet (fail);go_wp2;go_ret;exact⟨aa,au.trans (av.alloc _ _) (av.drewN _ _)⟩
def xP{fn}{p:Tmp}{ty}(h:fn.results=#[.cell p ty])tmps P w:
 (results fn tmps).run P w=((asAddr (tmps.getD p undef)).run P w).andThen λa w₁=>(loadVar ty a).run P w₁:=by
 simp only[results,h];simp
def Me{a b c d lo n}(h1:lo=max a c)(h2:n=min (a+b) (c+d) -max a c)(h3:max a c<min (a+b) (c+d)):gT (lo,n)=gT (mh (a,b) (c,d)):=by grind[mh]
def ao8{a b c d}(h3:min (a+b) (c+d)<=max a c):gT (0,0)=gT (mh (a,b) (c,d)):=by grind[mh]
set_option maxHeartbeats 4000000 in
def av4(a b c d)w(h1:eX (a,b))(h2:eX (c,d)):
 aC ax 169 #[ar #[J R a,J R b],ar #[J R c,J R d]] w λe w'=>e=aB (gT (mh (a,b) (c,d)))/\au w w':=by
 obtain⟨fy,a2,a3⟩:=h1;obtain⟨c1,c2,dz⟩:=h2;simp only at fy a2 a3 c1 c2 dz;go_enter func169,ntmps169;go_wp2;all_goals(try simp only[GC,Exit.then])
 all_goals first
  |(refine c8 (v:=gT (a,a+b -a)) ?_ aa ⟨by rw[Me (a:=a) (b:=b) (c:=c) (d:=d) (lo:=a) (n:=a+b -a) ad ad ad],au.trans (av.alloc _ _) (au.trans (av.alloc _ _) (av.alloc _ _))⟩;rw[xP aa];go_simp;done)
  |(refine c8 (v:=gT (a,c+d -a)) ?_ aa ⟨by rw[Me (a:=a) (b:=b) (c:=c) (d:=d) (lo:=a) (n:=c+d -a) ad ad ad],au.trans (av.alloc _ _) (au.trans (av.alloc _ _) (av.alloc _ _))⟩;rw[xP aa];go_simp;done)
  |(refine c8 (v:=gT (c,a+b -c)) ?_ aa ⟨by rw[Me (a:=a) (b:=b) (c:=c) (d:=d) (lo:=c) (n:=a+b -c) ad ad ad],au.trans (av.alloc _ _) (au.trans (av.alloc _ _) (av.alloc _ _))⟩;rw[xP aa];go_simp;done)
  |(refine c8 (v:=gT (c,c+d -c)) ?_ aa ⟨by rw[Me (a:=a) (b:=b) (c:=c) (d:=d) (lo:=c) (n:=c+d -c) ad ad ad],au.trans (av.alloc _ _) (au.trans (av.alloc _ _) (av.alloc _ _))⟩;rw[xP aa];go_simp;done)
  |(refine c8 (v:=gT (0,0)) ?_ aa ⟨by rw[ao8 (a:=a) (b:=b) (c:=c) (d:=d) ad],au.trans (av.alloc _ _) (au.trans (av.alloc _ _) (av.alloc _ _))⟩;rw[xP aa];go_simp;done)
def UI(w:aP)b(x y Oy Vg)(h1:w.cell? ⟨b,0,af⟩=ab x)(h2:w.cell? ⟨b,1,af⟩=ab y):
 ((w.setCell ⟨b,0,af⟩ Oy).setCell ⟨b,1,af⟩ Vg).cell? ⟨b,0,af⟩=ab Oy/\((w.setCell ⟨b,0,af⟩ Oy).setCell ⟨b,1,af⟩ Vg).cell? ⟨b,1,af⟩=ab Vg:=by
 have fy:=akf w ⟨b,0,af⟩ Oy aG;constructor;·grind[ake]
 .refine akf _ _ _ ?_;rw[ake];·grind
  .simp
def auI{a b c d lo hi}(h1:lo=max a c)(h2:hi=min (a+b) (c+d)):(if decide (hi -lo<1)=az then gT (0,0)else gT (lo,hi -lo))=gT (mh (a,b) (c,d))/\(!decide (hi -lo<1))=meets (a,b) (c,d):=by grind[mh,meets]
set_option maxHeartbeats 4000000 in
def NQ(a b c d)w(h1:eX (a,b))(h2:eX (c,d)):
 aC ax 202 #[ar #[J R a,J R b],ar #[J R c,J R d]] w λe w'=>e=aB (bo #[gT (mh (a,b) (c,d)),ai (meets (a,b) (c,d))])/\au w w':=by
 obtain⟨fy,a2,a3⟩:=h1;obtain⟨c1,c2,dz⟩:=h2;simp only at fy a2 a3 c1 c2 dz
 have HB:aE (∀lo hi W (r:Bool),lo=max a c->hi=min (a+b) (c+d)->aC _ 279 _ W λe w'=>e=aB _/\au W w'):=hid (λlo hi W r kp zc=>by have h:=am5 lo hi 1 W ad ad ad ad _ aa;obtain⟨bF,cq⟩:=auI (a:=a) (b:=b) (c:=c) (d:=d) kp zc;rw[bF,cq]at h;exact h);generalize meets (a,b) (c,d)=r at*;generalize mh (a,b) (c,d)=o at*;obtain⟨gr,eT⟩:=o
 have bK:aE (∀w',av (λi=>i=w.heap.size+2) _ w'->w'.cell? _=ab _/\w'.cell? _=ab _/\w'.cell? _=ab (J R c)/\w'.cell? _=ab (J R d)):=hid (λw' hw'=>by have g1:=yU w (J R a) (J R b) 35;have g2:=yU (w.alloc (bp #[J R a,J R b] 35)) (J R c) (J R d) 35;rw[zX]at g2;have cK:=av.alloc (F:=λi=>i=w.heap.size+2) (w.alloc (bp #[J R a,J R b] 35)) (bp #[J R c,J R d] 35);have cI:=av.alloc (F:=λi=>i=w.heap.size+2) ((w.alloc (bp #[J R a,J R b] 35)).alloc (bp #[J R c,J R d] 35)) (bp #[J R 0,J R 0] 35);have iQ:=(cK.trans cI (λ_ _ h=>h)).trans hw' (λ_ _ h=>h);have qy:=cI.trans hw' (λ_ _ h=>h);exact⟨iQ.cell g1.1 (by show¬w.heap.size=w.heap.size+2;omega),iQ.cell g1.2 (by show¬w.heap.size=w.heap.size+2;omega),qy.cell g2.1 (by show¬w.heap.size+1=w.heap.size+2;omega),qy.cell g2.2 (by show¬w.heap.size+1=w.heap.size+2;omega)⟩)
 have G2:aE (∀w',av (λ_=>False) _ w'->w'.frozen? ⟨w.heap.size+1+1,0,af⟩=ao/\w'.frozen? ⟨w.heap.size+1+1,1,af⟩=ao/\w'.cell? ⟨w.heap.size+1+1,0,af⟩=ab (J R 0)/\w'.cell? ⟨w.heap.size+1+1,1,af⟩=ab (J R 0)):=hid (λw' hw'=>by have g3:=fO ((w.alloc (bp #[J R a,J R b] 35)).alloc (bp #[J R c,J R d] 35)) (bp #[J R 0,J R 0] 35);rw[zX,zX]at g3;have g4:=hw'.heap g3 (λh=>h);exact⟨by simp[wK,g4],by simp[wK,g4],by simp[zW,g4],by simp[zW,g4]⟩);go_enter func202,ntmps202;go_wp2_with fail;have Ec:aE (au w (((w.alloc (bp #[J R a,J R b] 35)).alloc (bp #[J R c,J R d] 35)).alloc (bp #[J R 0,J R 0] 35))):=hid (au.trans (av.alloc _ _) (au.trans (av.alloc _ _) (av.alloc _ _)));generalize ((w.alloc (bp #[J R a,J R b] 35)).alloc (bp #[J R c,J R d] 35)).alloc (bp #[J R 0,J R 0] 35)=aq at*;generalize Mp:w.heap.size=B at*;have kh:aE (∀w',av (λi=>i=B+1+1) aq w'->w'.cell? _=ab _/\w'.cell? _=ab _/\w'.cell? _=ab _/\w'.cell? _=ab _):=hid bK.out;have yt:aE (∀w',au aq w'->w'.frozen? _=ao/\w'.frozen? _=ao/\w'.cell? _=ab _/\w'.cell? _=ab _):=hid G2.out
 have Lp:aE (∀w',au aq w'->∀u v,((w'.setCell _ u).setCell _ v).cell? _=ab _/\((w'.setCell _ u).setCell _ v).cell? _=ab _/\((w'.setCell _ u).setCell _ v).cell? _=ab _/\((w'.setCell _ u).setCell _ v).cell? _=ab _):=hid (λw' h u v=>
  kh.out _ ((h.mono (G:=λi=>i=B+1+1) (λ_ _ h=>h.elim)).trans ((av.setCell (F:=λi=>i=B+1+1) w' (p:=⟨_,0,af⟩) aa u).trans (av.setCell (F:=λi=>i=B+1+1) _ (p:=⟨_,1,af⟩) aa v) (λ_ _ h=>h)) (λ_ _ h=>h)))
 have Le:aE (∀w',au aq w'->∀u v,au w _):=hid (λw' h u v=>by have q:=((au.trans Ec.out h).mono (G:=λi=>i=B+1+1) (λ_ _ h=>h.elim)).trans ((av.setCell (F:=λi=>i=B+1+1) w' (p:=⟨_,0,af⟩) aa u).trans (av.setCell (F:=λi=>i=B+1+1) _ (p:=⟨_,1,af⟩) aa v) (λ_ _ h=>h)) (λ_ _ h=>h);exact q.mono (λi hi h=>ad))
 have K7:aE (∀w',au aq w'->((w'.setCell _ _).setCell _ _).cell? _=ab _/\((w'.setCell _ (J R gr)).setCell _ _).cell? _=ab (J R eT)):=hid (λw' h=>by obtain⟨_,_,FW,n4⟩:=yt.out w' h;exact UI w' _ _ _ _ _ FW n4);clear bK G2;rcases(show a<c\/¬a<c by omega)with Sr|Sr<;>rcases(show c+d<a+b\/¬c+d<a+b by omega)with hab|hab
 .go_region_held3 (λw'=>w'.cell? ⟨B,0,af⟩=ab (J R a)/\w'.cell? ⟨B,1,af⟩=ab (J R b)/\w'.cell? ⟨B+1,0,af⟩=ab (J R c)/\w'.cell? ⟨B+1,1,af⟩=ab (J R d))
   (first
     |exact kh.out _ (av.drew _)
     |exact kh.out _ (hc.mono (λ_ _ h=>h.elim))
     |exact Lp.out _ hc _ _
     |exact kh.out _ (hb.mono (λ_ _ h=>h.elim))
     |exact kh.out _ (ha.mono (λ_ _ h=>h.elim)))
   (first
     |(go_at_call 279;have ca:=HB.out (c) (c+d) pP az ad ad;with_reducible refine ca.mono ?_;clear ca;rintro e wc ⟨rfl,hc0⟩;have hc:au aq wc:=au.trans hb hc0;obtain⟨mH,ni,FW,n4⟩:=yt.out wc hc)
     |(go_at_call 117;have ca:=l5 c d ji c1 c2 dz;with_reducible refine ca.mono ?_;clear ca;rintro e pP ⟨rfl,hb0⟩;have hb:au aq pP:=au.trans ha hb0)
     |(go_at_call 117;refine(l5 a b _ fy a2 a3).mono ?_;rintro e ji ⟨rfl,ha0⟩;have ha:au aq ji:=au.trans (av.drew _) ha0))
  all_goals
   go_wp2;(try simp only[GC,Exit.then]);obtain⟨gS,uf⟩:=K7.out wc hc;refine c8 (v:=bo #[_,_]) ?_ aa ⟨aa,Le.out wc hc _ _⟩;rw[BW aa];go_simp
 .have aqN:=eq_false hab
  go_region_held3 (λw'=>w'.cell? ⟨B,0,af⟩=ab (J R a)/\w'.cell? ⟨B,1,af⟩=ab (J R b)/\w'.cell? ⟨B+1,0,af⟩=ab (J R c)/\w'.cell? ⟨B+1,1,af⟩=ab (J R d))
   (first
     |exact kh.out _ (av.drew _)
     |exact kh.out _ (hc.mono (λ_ _ h=>h.elim))
     |exact Lp.out _ hc _ _
     |exact kh.out _ (hb.mono (λ_ _ h=>h.elim))
     |exact kh.out _ (ha.mono (λ_ _ h=>h.elim)))
   (first
     |(go_at_call 279;have ca:=HB.out (c) (a+b) pP az ad ad;with_reducible refine ca.mono ?_;clear ca;rintro e wc ⟨rfl,hc0⟩;have hc:au aq wc:=au.trans hb hc0;obtain⟨mH,ni,FW,n4⟩:=yt.out wc hc)
     |(go_at_call 117;have ca:=l5 c d ji c1 c2 dz;with_reducible refine ca.mono ?_;clear ca;rintro e pP ⟨rfl,hb0⟩;have hb:au aq pP:=au.trans ha hb0)
     |(go_at_call 117;refine(l5 a b _ fy a2 a3).mono ?_;rintro e ji ⟨rfl,ha0⟩;have ha:au aq ji:=au.trans (av.drew _) ha0))
  all_goals
   go_wp2;(try simp only[GC,Exit.then]);obtain⟨gS,uf⟩:=K7.out wc hc;refine c8 (v:=bo #[_,_]) ?_ aa ⟨aa,Le.out wc hc _ _⟩;rw[BW aa];go_simp
 .have aqO:=eq_false Sr
  go_region_held3 (λw'=>w'.cell? ⟨B,0,af⟩=ab (J R a)/\w'.cell? ⟨B,1,af⟩=ab (J R b)/\w'.cell? ⟨B+1,0,af⟩=ab (J R c)/\w'.cell? ⟨B+1,1,af⟩=ab (J R d))
   (first
     |exact kh.out _ (av.drew _)
     |exact kh.out _ (hc.mono (λ_ _ h=>h.elim))
     |exact Lp.out _ hc _ _
     |exact kh.out _ (hb.mono (λ_ _ h=>h.elim))
     |exact kh.out _ (ha.mono (λ_ _ h=>h.elim)))
   (first
     |(go_at_call 279;have ca:=HB.out (a) (c+d) pP az ad ad;with_reducible refine ca.mono ?_;clear ca;rintro e wc ⟨rfl,hc0⟩;have hc:au aq wc:=au.trans hb hc0;obtain⟨mH,ni,FW,n4⟩:=yt.out wc hc)
     |(go_at_call 117;have ca:=l5 c d ji c1 c2 dz;with_reducible refine ca.mono ?_;clear ca;rintro e pP ⟨rfl,hb0⟩;have hb:au aq pP:=au.trans ha hb0)
     |(go_at_call 117;refine(l5 a b _ fy a2 a3).mono ?_;rintro e ji ⟨rfl,ha0⟩;have ha:au aq ji:=au.trans (av.drew _) ha0))
  all_goals
   go_wp2;(try simp only[GC,Exit.then]);obtain⟨gS,uf⟩:=K7.out wc hc;refine c8 (v:=bo #[_,_]) ?_ aa ⟨aa,Le.out wc hc _ _⟩;rw[BW aa];go_simp
 .have aqO:=eq_false Sr;have aqN:=eq_false hab
  go_region_held3 (λw'=>w'.cell? ⟨B,0,af⟩=ab (J R a)/\w'.cell? ⟨B,1,af⟩=ab (J R b)/\w'.cell? ⟨B+1,0,af⟩=ab (J R c)/\w'.cell? ⟨B+1,1,af⟩=ab (J R d))
   (first
     |exact kh.out _ (av.drew _)
     |exact kh.out _ (hc.mono (λ_ _ h=>h.elim))
     |exact Lp.out _ hc _ _
     |exact kh.out _ (hb.mono (λ_ _ h=>h.elim))
     |exact kh.out _ (ha.mono (λ_ _ h=>h.elim)))
   (first
     |(go_at_call 279;have ca:=HB.out (a) (a+b) pP az ad ad;with_reducible refine ca.mono ?_;clear ca;rintro e wc ⟨rfl,hc0⟩;have hc:au aq wc:=au.trans hb hc0;obtain⟨mH,ni,FW,n4⟩:=yt.out wc hc)
     |(go_at_call 117;have ca:=l5 c d ji c1 c2 dz;with_reducible refine ca.mono ?_;clear ca;rintro e pP ⟨rfl,hb0⟩;have hb:au aq pP:=au.trans ha hb0)
     |(go_at_call 117;refine(l5 a b _ fy a2 a3).mono ?_;rintro e ji ⟨rfl,ha0⟩;have ha:au aq ji:=au.trans (av.drew _) ha0))
  all_goals
   go_wp2;(try simp only[GC,Exit.then]);obtain⟨gS,uf⟩:=K7.out wc hc;refine c8 (v:=bo #[_,_]) ?_ aa ⟨aa,Le.out wc hc _ _⟩;rw[BW aa];go_simp
end Go.Proofs.YtcmhplknoglbkaaGreat
