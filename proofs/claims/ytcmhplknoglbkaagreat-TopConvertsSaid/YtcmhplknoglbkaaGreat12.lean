/- Part 12 of the proof of TopConvertsSaid. -/
import Derived.Deep.AppendSrc
import Derived.Lib.JoinLaws
import Derived.Test.YtcmhplknoglbkaaGreat0
import Derived.Test.YtcmhplknoglbkaaGreat6
import Derived.Test.YtcmhplknoglbkaaGreat7
import Derived.Test.YtcmhplknoglbkaaGreat11
set_option linter.all false
set_option maxRecDepth 100000
set_option maxHeartbeats 4000000
open Go.Proofs.Tryz
open Go renaming Addr->bW,Calls->aD,World->aN,bodyPost_ret->dp,cell_of_row->eC,loadCellsFrom->OT,maxLen->dO,results_cell_row->je,run_underlying->gG,sizeOf->mu,typeInfo->mV,wpList_nil->ak,wp_region_lit->ar
open Go.Builtin renaming append_->oK,firstCells->q8,lenOf->vT
open Go.Ending renaming returned->aA
open Go.IntKind renaming bits->C2,i64->R,signed->Jl,u64->aH,u8->ea,wrap->C3
open Go.Obj renaming cells->bf
open Go.Operand renaming const->qh,tmp->bc
open Go.Proofs.Tryz renaming prog->ax,underlying22->dJ,underlying354->VK
open Go.RowKit renaming intOf->cx
open Go.Value renaming agg->av,int->J,pointer->ay,slice->ad
open List renaming eq_nil_of_length_eq_zero->jH,length_append->dw,length_drop->u4,length_replicate->ry,map_append->gy,map_cons->jx,map_nil->kC,replicate->fu
open Nat renaming le_refl->cp
open Option renaming map_some->oT,none->af,some->ab
open Option.some renaming injEq->wC
open Or renaming inl->bJ,inr->b3
namespace Go.Proofs.YtcmhplknoglbkaaGreat
section
open Go.RowKit Go.MapKept
def aec{t fr}g:∀(b) o (w:aN) cur,w.heap[g]?=ab (bf cur t fr)->
 ∃a,(w.setCells g o b).heap[g]?=ab (bf a t fr)/\a.size=cur.size/\∀j,a[j]?=if o<=j/\j<o+b.length/\j<cur.size then b[j -o]? else cur[j]?
 |[],o,w,cur,h=>⟨cur,h,rfl,λj=>aG⟩
 |v::r,o,w,cur,h=>by
  have h1:(w.setCell ⟨g,o,af⟩ v).heap[g]?=ab (bf (cur.setIfInBounds o v) t fr):=by grind[World.setCell]
  obtain⟨a,c,d,e⟩:=aec g r (o+1) _ _ h1;refine⟨a,c,aG,λj=>?_⟩;grind
def aq.at6 w(g o)a:aq (λk=>k=g) w (w.setCells g o a):=by
 induction a generalizing o w with
 |nil=>exact aq.refl _ _
 |cons v r b=>exact(aq.setCell (F:=λk=>k=g) w (p:=_) aa v).trans (b _ _) (λ_ _ h=>h)
def eY(N:Nat)(w:aN)(A:Option bW)(n c:Nat)(e:TypeId)(xs:List Value):Prop:=xs.length=n/\((A=af/\n=0/\c=0)\/
 ∃g off cur,A=ab ⟨g,off,af⟩/\N<=g/\aX w g cur e/\n<=c/\c<=dO/\off+c<=cur.size/\∀j,j<n->cur[off+j]?=xs[j]?)
section
variable {F:Nat->Prop} {w w':aN} {N n c e b4 B m:Nat} {A:Option bW} {xs:List Value}
theorem eY.nil N w e:eY N w af 0 0 e []:=⟨aa,bJ ⟨aa,aa,aa⟩⟩
def eY.only(h:eY N w A n c e xs)(k:aq F w w')(a:∀b,dV A b->¬F b):eY N w' A n c e xs:=by
 refine⟨h.1,?_⟩;rcases h.2 with h2|⟨g,off,cur,rfl,hb,hg,r⟩;·grind
 .exact b3 ⟨g,_,_,aa,hb,k.heap hg (a g ⟨_,_,aa⟩),r⟩
def eY.mem(h:eY N w A n c e xs):Mem N w A e:=λb off f a=>by
 rcases h.2 with⟨rfl,_⟩|⟨g,o,cur,rfl,hb,d,_⟩;·grind
 grind
def eY.lt(h:eY N w A n c e xs){b}(hb:dV A b):N<=b/\b<w.heap.size:=by obtain⟨off,d,e⟩:=hb;obtain⟨h1,cs,a⟩:=h.mem b off d e;exact⟨h1,aX.lt a⟩
def eY.cap(h:eY N w A n c e xs):n<=c:=by
 rcases h.2 with⟨_,a,b⟩|⟨_,_,_,_,_,_,d,_⟩;·omega
 .omega
def eY.arb{cs}(h:eY N w A n c e xs)(hb:aX w B cs b4)(g:b4≠e):¬dV A B:=λ⟨off,b,a⟩=>by obtain⟨_,d,f⟩:=h.mem B off b a;grind
def eY.ofRow(h:Row N w A n c e 1 xs):eY N w A n c e xs:=by
 refine⟨by simpa using h.1,?_⟩;rcases h.2 with⟨hv,f⟩|⟨g,cap,cur,hv,hb,a,d,b,k,l⟩;·grind
 .injection hv with h1 h2 h3;subst h3;refine b3 ⟨g,0,_,h1,hb,a,d,b,ae,λj i=>?_⟩;grind
def eY.drop(h:eY N w A n c e xs){i}(hi:i<=n):eY N w (fF A c i 1) (n -i) (c -i) e (xs.drop i):=by
 refine⟨by rw[u4,h.1],?_⟩;rcases h.2 with⟨rfl,a,b⟩|⟨g,off,cur,rfl,h1,a,b,f,k,l⟩;·grind[fF]
 .right;by_cases hc:c=i;·exact⟨g,off,cur,by grind[fF],h1,a,ae,ae,ae,λj d=>ae⟩
  .refine⟨g,off+i,cur,by grind[fF,nD],h1,a,ae,ae,ae,λj d=>?_⟩;grind
def eY.nS{bs}(h:eY N w A bs.length c 5 (bs.map a')):e3 N w A c bs:=by
 refine⟨λi=>?_,h.mem,h.cap⟩;rcases h.2 with⟨_,a,_⟩|⟨g,off,cur,rfl,h1,a,b,d,e,f⟩;·omega
 grind[aX.cell]
end
section
variable {P:Program} (w:aN)
def atC N (t ty e) i z (d:P.underlying t=ab (.slice e)) (hi:P.info? e=ab i) (hz:i.zero=ab z) (hsize:i.size=1) (hzs:z.cells.size=1)
 A (n c) xs (c3:eY N w A n c e xs) aK (m c2) news (hr:Cells w 1 aK m news) (h1:∀u∈news,u.oneCell'=true)
 (h63:n+m<=dO) (hbytes:(n+m)*i.bytes<=140737488355328) (fl:N<=w.heap.size):
 ∃a f w',(oK #[t,t] ty #[ad A n c,ad aK m c2]).run P w=.ok (ad a (n+m) f) w'/\eY N w' a (n+m) f e (xs++news)/\u1 (dV A) w w'/\(∀b,dV a b->dV A b\/w.heap.size<=b):=by
 have hlen:(xs++news).length=n+m:=by rw[dw,c3.1,hr.1];omega
 rcases Nat.eq_zero_or_pos m with p|p
 .subst p;have D:=jH (by simpa using hr.1);subst D;refine⟨A,c,w,?_,aG,ao.keep (aq.refl _ w),λb hb=>bJ hb⟩;have hc:=c3.cap;rcases aK with _|o
  .rcases c3.2 with⟨rfl,rfl,rfl⟩|⟨g,off,cur,rfl,_⟩;·simp[oK,gG d,mu,mV,hi,vT,q8]
   .simp[oK,gG d,mu,mV,hi,vT,q8,hc,storeCells]
  .rcases c3.2 with⟨rfl,rfl,rfl⟩|⟨g,off,cur,rfl,_⟩;·simp[oK,gG d,mu,mV,hi,vT,q8,loadCells,OT]
   .simp[oK,gG d,mu,mV,hi,vT,q8,loadCells,OT,hc,storeCells]
 .obtain⟨o,rfl,hnews⟩:=hr.2 p;have r:Src P i.size t _ m _ w:=Src.ofSlice w d o m c2 _ (by rw[hr.1,hsize]) hnews h1
  have grow:c<n+m->(q8 i.size n (ad A n c)).run P w.drew=.ok xs.toArray w.drew->
   ∃a f w',(oK #[t,t] ty #[ad A n c,ad (ab o) m c2]).run P w=.ok (ad a (n+m) f) w'/\eY N w' a (n+m) f e (xs++news)/\u1 (dV A) w w'/\(∀b,dV a b->dV A b\/w.heap.size<=b):=by
   intro hc hold;have hrun:=run_append_grow_src (P:=P) w t t ty e i z d hi hz A n c xs hold _ m news r hc (by grind[dO]) (growslice_fits hc hbytes);have B:=grownCap_ge w (n+m) c e;have C:=grownCap_le_maxLen w _ c e h63;have y:∀E,ao w (w.drew.alloc E):=λ_=>ao.trans (aq.drew _) (aq.alloc _ _);refine⟨_,_,_,hrun,⟨hlen,b3 ⟨w.heap.size,0,_,aa,fl,heap_alloc_new w.drew _,B,C,?_,λj q=>?_⟩⟩,(y _).keep.acF,λb ⟨_,_,G⟩=>aG⟩;·grind[Builtin.zeroCells]
   .grind
  rcases c3.2 with⟨rfl,rfl,rfl⟩|⟨g,off,cur,rfl,s,h,H,v,I,x⟩;·obtain rfl:=jH c3.1;grind[run_firstCells_none]
  .have hcell:∀(j) u,xs[j]?=ab u->w.cell? _=ab u:=λj u l=>by rw[eC w g _ _ _ _ h,x j (by rw[<-c3.1];exact(List.getElem?_eq_some_iff.1 l).1),l]
   by_cases hroom:n+m<=c
   .have hrun:=run_append_room_src (P:=P) w t t ty e i d hi g off n c _ m _ r hroom (λj q=>by rw[eC w g _ _ _ _ h,hsize];have:=hr.1;simp;omega) (λj _=>by grind[World.frozen?]);rw[hsize,Nat.mul_one]at hrun;obtain⟨F,eS,eZ,sA⟩:=aec g news (off+n) w cur h;refine⟨_,_,_,hrun,⟨hlen,b3 ⟨g,_,_,rfl,s,eS,hroom,v,ae,λj q=>?_⟩⟩,?_,λb hb=>bJ hb⟩;·have hx:=c3.1;grind
    .have k:=u1.acE (aq.at6 w g _ _) h eS eZ;exact⟨k.only.mono (λb _ e=>⟨off,af,by rw[e]⟩),k.shape⟩
   .refine grow ae ?_;rw[hsize];exact run_firstCells_some _ 1 n _ n c xs (by have:=c3.1;omega) (λj u l=>by rw[nD];exact hcell j u l)
end
def ww(A:Option bW)(n c:Nat)(e:TypeId)(xs:List Value):bu:=⟨dV A,λw=>eY 0 w A n c e xs,λw w' h _ d=>
 ⟨d.1,d.2.elim bJ (λ⟨g,off,cur,a,f,b,r⟩=>b3 ⟨g,off,cur,a,f,(h g (a▸⟨off,af,aa⟩) (aX.lt b)).trans b,r⟩)⟩⟩
def avs {P o} {a:Act} {w s x} {t e n c m c2:Nat} {A aK xs news} bytes (l:o.op=.call {callee:=.builtin .append,args:=#[s,x],argTypes:=#[t,t]}) (q:a.eval s=ad A n c) (hx:a.eval x=ad aK m c2) (hown:(ww A n c e xs).p w) (hr:Cells w 1 aK m news) (h1:∀u∈news,u.oneCell'=true) (hbytes:(n+m)*bytes<=140737488355328) (hb0:0<bytes) (r:P.underlying t=ab (.slice e))
 (kZ:(P.info? e).map (λi=>(i.zero.isSome,(i.zero.map (·.cells.size)).getD 0,i.size,i.bytes))=ab (true,1,1,bytes)):
 ∃d f w',(execOp a.eval o).run P w=.ok (.value (ad d (n+m) f)) w'/\Turned w w' (ww A n c e xs) (ww d (n+m) f e (xs++news)):=by
 cases hq:P.info? e with
 |none=>grind
 |some i=>
  rw[hq]at kZ;simp only[oT,wC,Prod.mk.injEq]at kZ;obtain⟨bD,b9,g,h⟩:=kZ;obtain⟨z,hz⟩:=Option.isSome_iff_exists.1 bD;rw[hz]at b9;simp only[oT,Option.getD_some]at b9;subst h;have hle:(n+m)<=(n+m)*i.bytes:=Nat.le_mul_of_pos_right _ hb0;obtain⟨d,f,w',hrun,h1,j,k⟩:=atC (P:=P) w 0 t o.type e i z r hq hz g b9 A n c xs hown aK m c2 news hr h1 (by grind[dO]) hbytes (Nat.zero_le _);refine⟨d,f,w',?_,j.only,h1,λb hb=>⟨(h1.lt hb).2,k b hb⟩⟩;unfold execOp;simp only[l,resolve,invoke,builtin,Sem.run_bind,Sem.run_pure,Result.andThen_ok,List.map_toArray,jx,kC,q,hx,hrun]
def XO{bs:List Int}:∀u∈bs.map a',u.oneCell'=true:=λu a=>by obtain⟨x,_,rfl⟩:=List.mem_map.1 a;rfl
end
open Go.RowKit Go.MapKept
def pE(ws:List Int)(l:List Int):List Int×List Int:=if 64<=l.length then pE (DG ws (l.take 64)) (l.drop 64)else(ws,l)
termination_by l.length
decreasing_by grind
theorem Kp{ws l}(h:64<=l.length):pE ws l=pE (DG ws (l.take 64)) (l.drop 64):=by grind[pE]
def Kq{ws l}(h:¬64<=l.length):pE ws l=(ws,l):=by grind[pE]
def Xu(ws l)(h:ws.length=8):(pE ws l).1.length=8/\(pE ws l).2.length<64/\(pE ws l).2.length<=l.length:=by
 by_cases h1:64<=l.length;·rw[Kp h1];have:=Xu (DG ws (l.take 64)) (l.drop 64) (DH h);rw[u4]at this;omega
 .rw[Kq h1];exact⟨h,by show l.length<64;omega,cp _⟩
termination_by l.length
decreasing_by grind
def Xt(ws l x):pE ws (l++x)=pE (pE ws l).1 ((pE ws l).2++x):=by
 by_cases h1:64<=l.length;·rw[Kp h1,Kp (by rw[dw];omega),List.take_append_of_le_length h1,List.drop_append_of_le_length h1];exact Xt _ _ _
 .rw[Kq h1]
termination_by l.length
decreasing_by grind
def yD:List Int:=[1779033703,3144134277,1013904242,2773480762,1359893119,2600822924,528734635,1541459225]
def iY(msg:List Int):List Int×List Int:=pE yD msg
def Cv msg:(iY msg).1.length=8/\(iY msg).2.length<64/\(iY msg).2.length<=msg.length:=Xu _ _ aa
def iO(t B:Nat)(A:Option bW)(msg:List Int):bu:=⟨λb=>b=B\/dV A b,λw=>t≠5/\∃c,aX w B (aY cb (iY msg).1 [ad A (iY msg).2.length c,J R (msg.length:Int)]) t/\eY 0 w A (iY msg).2.length c 5 ((iY msg).2.map a'),λw w' h a ⟨e,c,h1,d⟩=>
 ⟨e,c,(h B (bJ aa) (a B (bJ aa))).trans h1,(ww A _ c 5 _).ox w w' (λb hb=>h b (b3 hb)) (λb hb=>a b (b3 hb)) d⟩⟩
abbrev iu(B:Nat)(A:Option bW)(msg:List Int):bu:=iO 357 B A msg
def iO.split{an w FX l t B A msg}(h:ai an FX w (iO t B A msg::l)):∃c,ai an FX w (ah B (aY cb (iY msg).1 [ad A (iY msg).2.length c,J R (msg.length:Int)]) t::ww A (iY msg).2.length c 5 ((iY msg).2.map a')::l):=by obtain⟨d,c,h1,a⟩:=h.at 0;exact⟨c,(h.as 0 aa (both (ah B _ t) (ww A _ c 5 _)) (λ_=>⟨h1,a,λb hb hb2=>eY.arb a h1 d ((show b=B from hb)▸hb2)⟩) (λ_ hb=>hb)).fi⟩
def iO.close{an w FX l}{t B c:Nat}{A msg}(a:t≠5)(h:ai an FX w (ah B (aY cb (iY msg).1 [ad A (iY msg).2.length c,J R (msg.length:Int)]) t::ww A (iY msg).2.length c 5 ((iY msg).2.map a')::l)):ai an FX w (iO t B A msg::l):=
 h.star.as 0 aa (iO t B A msg) (λh=>⟨a,c,h.1,h.2.1⟩) (λ_ hb=>hb)
def TD(w:aN)(B:Nat):Nat:=match w.cell? ⟨B,8,af⟩with
 |some (ad _ n _)=>n
 |_=>0
def adF{w B n c A}(h:w.cell? ⟨B,8,af⟩=ab (ad A n c)):TD w B=n:=by grind[TD]
def SB{A c i sz b}(h:dV (fF A c i sz) b):dV A b:=by
 obtain⟨off,f,e⟩:=h;unfold fF at e;split at e;·exact⟨_,f,e⟩
 .cases A with
  |none=>grind
  |some a=>
   simp at e;obtain⟨d,g,j⟩:=a;have:d=b:=by grind[Addr.add]
   subst this;exact⟨_,_,aa⟩
def take_at(B t)(A aK)c2(msg bs)w(I:msg.length+bs.length<=70368744177664)(hst:Has w (iO t B A msg))(hb:bT w aK bs)(hne:∀b off,aK=ab ⟨b,off,af⟩->¬(iO t B A msg).c5 b):
 aD ax 241 #[ay (ab ⟨B,0,af⟩),ad aK bs.length c2] w λe w'=>e=aA (.tuple #[])/\∃D,Turned w w' (iO t B A msg) (iO t B D (msg++bs)):=by
 have C:=hst.1.1;obtain⟨b1,o⟩:=iO.split (ai.start hst);have hlen:=Cv msg;obtain⟨ws,s⟩:=ex (iY msg).1;obtain⟨rs,r⟩:=ex (iY msg).2;rw[s,r]at o hlen;have v:=hid (And.intro s r);have m:=hid hlen;have E:=hid hb;have N:=hid I;obtain⟨u,z⟩:=ex (msg++bs).length;have S:msg.length+bs.length=u:=aG;have F:=hid z;clear z hb s r hst;go_enter func241,ntmps241;have a:=o;clear o;go_upto_region 0 with fail;refine ar ?_;refine v3 ?_;refine pl a 0 9 ?_ (hv:=sx (k:=1) m.out.1 aa);refine v2 ?_;refine pad _ _ (u:Int) ?_;refine v2 ?_;refine ba a 0 (J _ _) (λw1 a=>?_) (hk:=Km m.out.1 (of_decide_eq_true aa)) (hc:=Ko (k:=1) m.out.1);refine ak ?_;go_upto_region 1 with fail;refine ar ?_;refine v4 ?_;refine pl a 0 8 ?_ (hv:=sx (k:=0) m.out.1 aa);refine ag ?_;refine ac2 a 1 (avs 1 aa aa aa (a.at 1) (bT.cells (E.out.only a.only hne)) XO ae bj dJ aT) (λM P T a=>?_);refine v2 ?_;refine ba a 0 (ad _ _ _) (λU a=>?_) (hk:=Km m.out.1 (of_decide_eq_true aa)) (hc:=Ko (k:=0) m.out.1);refine ak ?_;rw[<-dw,<-gy]at a;have y:pE ws (rs++bs)=iY (msg++bs):=by rw[<-v.out.1,<-v.out.2];exact(Xt _ _ bs).symm
 have O:=hid y;clear y;go_wp2_with fail;go_loopw [] (λwr=>∃(n l:List Int) (f:Option bW) (d:Nat),Hid (n.length=8/\pE n l=iY (msg++bs))/\ai w (iO t B A msg).c5 wr [ah B (aY cb (n) [ad f l.length d,J R (u:Int)]) t,ww f l.length d 5 (l.map a')]) (λwr=>TD wr B);case atStart=>grind
 case round=>
  clear a;obtain⟨n,l,f,d,x,a⟩:=hrel;have g:=hid x.out.1;have Q:=eY.cap (a.at (t:=_) 1);by_cases p:64<=l.length
  .have G:(64:Int)<=(l.length:Int):=ae;have K:=adF (aX.cell (a.a1 0) 8 (sx (k:=0) g.out aa));go_upto_region 2 with fail;refine ar ?_;refine v3 ?_;refine pl a 0 8 ?_ (hv:=sx (k:=0) g.out aa);refine ag ?_;refine cd (.bool true) ?_;refine ak ?_;go_upto_region 3 with fail;refine ar ?_;refine v4 ?_;refine pl a 0 8 ?_ (hv:=sx (k:=0) g.out aa);refine aJ (ad f 64 d) (qV 22 5 1 (bc 32) (qh (J R 64)) aa dJ aT f _ d 64 aa aa ae) ?_;refine a7 (akn B t n _ _ f d (l.take 64) _ C g.out aG (bT.Fo (eY.nS (a.at (t:=_) 1)).1 p) (λoff L e=>a.ne (i:=0) (j:=1) aa aa bj B aa ⟨_,L,e⟩) (a.a1 0)) ?_;rintro e V ⟨rfl,H,hb⟩;replace a:=a.eG 0 (vd H hb);refine bb ?_;refine ak ?_;go_upto_region 4 with fail;refine ar ?_;refine v4 ?_;refine pl a 0 8 ?_ (hv:=sx (k:=0) (DH g.out) aa);refine aJ (ad (fF f d 64 1) (l.length -64) (d -64)) (TP 22 5 1 (bc 39) (qh (J R 64)) aa dJ aT f _ d 64 aa aa ae ae) ?_;refine v2 ?_;refine ba a 0 (ad _ _ _) (λW a=>?_) (hk:=Km (DH g.out) (of_decide_eq_true aa)) (hc:=Ko (k:=0) (DH g.out));refine ak ?_;go_wp2_with fail;go_roundw
   case rel=>
    replace a:=a.as 1 aa (ww _ _ _ 5 _) (λh=>by have q:=eY.drop h p;rwa [<-u4,<-List.map_drop]at q) (λb hb=>SB hb);grind[hid,DH,Kp]
   case measure=>rw[adF (aX.cell (a.a1 0) 8 (sx (k:=0) (DH g.out) aa)),K];omega
  .have G:¬(64:Int)<=(l.length:Int):=ae;go_upto_region 2 with fail;refine ar ?_;refine v3 ?_;refine pl a 0 8 ?_ (hv:=sx (k:=0) g.out aa);refine ag ?_;refine cd (.bool false) ?_;refine ak ?_;go_wp2_with fail;first|go_end0|refine bodyPost_ret (results_none rfl _ _ _) rfl ?_
   have hz:=x.out.2;rw[Kq p]at hz;refine⟨aa,f,ai.gj (iO.close (l:=[]) C (msg:=_) (c:=d) ?_) 0⟩;rw[<-hz,F.out];exact a
def apN:yD.length=8:=rfl
def at7:iY []=(yD,[]):=by rw[iY,Kq bj]
def apF w:
 aD ax 240 #[] w λe w'=>e=aA (av (aY cb yD [ad af 0 0,J R 0]))/\ao w w':=by
 go_enter func240,ntmps240;have a:=bg w;go_upto_region 0 with fail;refine ar ?_;refine bA a (aY cb (fu 8 0) _) (λb w1 a=>?_);refine aF ?_;refine pk (av (aY cb yD [])) ?_;refine pk (av (aY cb yD [ad af 0 0,J R 0])) ?_;refine Mz a 0 (ry ..) apN (λc a=>?_);refine ak ?_;go_wp2_with fail;refine dp (v:=av (aY cb yD [ad af 0 0,J R 0])) (je aa _ _ _ _ _ _ _ aa (a.a1 0) VK aa aT) aa (⟨aa,a.only⟩)
def Af w:
 aD ax 162 #[] w λe w'=>∃B,e=aA (ay (ab ⟨B,0,af⟩))/\b5 w w' (iu B af []):=by
 go_enter func162,ntmps162;have a:=bg w;go_upto_region 0 with fail;refine ar ?_;refine dR ?_;refine bC (apF _) a (λw1 a=>?_);refine pk (av (aY cb yD [ad af 0 0,J R 0])) ?_;refine bO a (av _) (λd f a=>?_);refine IZ ?_;exact⟨d,aa,(iO.close (t:=357) (msg:=[]) (A:=af) (c:=0) (l:=[]) bj (by rw[at7];exact((a.as 0 aa (both (ah d (aY cb yD [ad af 0 0,J R 0]) 357) (ww af 0 0 5 [])) (λh=>⟨h,eY.nil _ _ _,λ_ _ ⟨_,_,h⟩=>aG⟩) (λb hb=>hb.elim id (λ⟨_,_,h⟩=>aG))).fi))).fresh 0⟩
def alf(B t)A msg w(x:msg.length<=70368744177664)(hst:(iO t B A msg).p w):
 aD ax 242 #[ay (ab ⟨B,0,af⟩)] w λe w'=>∃m o,e=aA (av (aY cb (iY msg).1 [ad m (iY msg).2.length o,J R (msg.length:Int)]))/\b5 w w' (ww m (iY msg).2.length o 5 ((iY msg).2.map a')):=by
 obtain⟨y,b1,j,l⟩:=hst;have hlen:=Cv msg;obtain⟨ws,i⟩:=ex (iY msg).1;obtain⟨rs,c⟩:=ex (iY msg).2;rw[i,c]at j hlen;rw[c]at l;have u:=hid (And.intro i c);have b:=hid hlen;have q:=hid (eY.nS l).1;have n:=hid j;rw[i,c];clear i c hlen l j;go_enter func242,ntmps242;have a:=bg w;go_upto_region 0 with fail;refine ar ?_;refine bA a (aY cb (fu 8 0) _) (λr w1 a=>?_);refine jb ?_;refine aJ (av (aY cb ws [ad A rs.length b1,J R (msg.length:Int)])) (aqq 354 (bc 5) aa B aa (aq.heap a.only n.out (λh=>h)) VK aa (by rw[j7,b.out.1];rfl)) ?_;refine bA a (aY cb (fu 8 0) _) (λs z a=>?_);refine Mz a 0 (ry ..) b.out.1 (λC a=>?_);refine jt ?_;refine aJ (ad A rs.length b1) (fz aa aa (aq.heap a.only n.out (λh=>h)) (sx (k:=0) b.out.1 aa) aw) ?_;refine a7 (wI A b1 rs _ (q.out.aI a.only) (by have:=b.out;omega)) ?_;rintro e D ⟨d,f,rfl,hrow,g⟩;replace a:=a.k8 g hrow;refine bb ?_;refine ag ?_;refine ba a 1 (ad d _ f) (λE a=>?_) (hk:=Km b.out.1 (of_decide_eq_true aa)) (hc:=Ko (k:=0) b.out.1);refine aF ?_;refine bt a 1 (aY cb ws [ad d rs.length f,J R (msg.length:Int)]) ?_ (hv:=(ef _)) (hk:=by omega) (hz:=(by rw[j7,b.out.1];rfl));refine Mz a 2 (ry ..) b.out.1 (λF a=>?_);refine ak ?_;go_wp2_with fail;refine dp (v:=_) (je aa _ _ _ _ _ _ _ aa (a.a1 2) VK aa (by rw[j7,b.out.1];rfl)) aa (⟨d,f,aa,(a.as 0 aa (ww d _ f 5 _) eY.ofRow (λ_ h=>h)).fresh 0⟩)
def w5(n i:Nat):Int:=ea.wrap ((n:Int).fdiv (2^(8*i)))
def Tk(a:Nat):Nat:=(119 -a)%64
def vk(n:Nat)(r:Nat):List Int:=(List.range (8 -r)).map (λj=>w5 n (7 -j))
def amz{n i}(h:i<8):vk n i=vk n (i+1)++[w5 n i]:=by unfold vk;rw[show 8 -i=(8 -(i+1))+1 by omega,List.range_succ,gy,jx,kC,show 7 -(8 -(i+1))=i by omega]
def rH(msg:List Int):List Int:=128::(fu (Tk (iY msg).2.length) 0++vk (msg.length*8) 0)
def amy msg:(rH msg).length=1+Tk (iY msg).2.length+8:=by grind[rH,vk]
def o5(W:List Int)(i:Nat):Int:=ea.wrap ((W[i/4]?.getD 0).fdiv (2^(24 -i%4*8)))
def yJ(W:List Int):Nat->List Int
 |0=>fu 32 0
 |i+1=>(yJ W i).set i (o5 W i)
def EY W:∀q,(yJ W q).length=32
 |0=>ry ..
 |q+1=>by rw[yJ,List.length_set];exact EY W q
def ic(msg:List Int):List Int:=yJ (iY (msg++rH msg)).1 32
theorem sG msg:(ic msg).length=32:=EY _ _
def finish_at(B t)A msg w(hm:msg.length<=35184372088832)(hst:Has w (iO t B A msg)):
 aD ax 243 #[ay (ab ⟨B,0,af⟩)] w λe w'=>e=aA (av (aY a' (ic msg) []))/\Turned w w' (iO t B A msg) emp:=by
 have ht:=hst.1.1;obtain⟨b1,E⟩:=iO.split (ai.start hst);have hlen:=Cv msg;obtain⟨ws,M⟩:=ex (iY msg).1;obtain⟨rs,s⟩:=ex (iY msg).2;rw[M,s]at E hlen;obtain⟨f,G⟩:=ex (Tk rs.length);have aox:(119 -rs.length)%64=f:=G;have ayE:f<64:=ae;obtain⟨d,H⟩:=ex msg.length;have uc:d<=35184372088832:=ae;have L:=amy msg;rw[s,G]at L;have Q:rH msg=128::(fu f 0++vk (d*8) 0):=by rw[rH,s,G,H]
 have D:=hid (And.intro M (And.intro s H));have N:=hid hlen;have ayX:=hlen.2.1;have C:=hid (And.intro L Q);rw[H]at E;clear M s hlen H L Q G hst;go_enter func243,ntmps243;have a:=E;clear E;go_upto_region 0 with fail;refine ar ?_;refine bA a (aY a' (fu 32 0) []) (λI w1 a=>?_);refine ak ?_;have apk:aH.wrap (d:Int)=(d:Int):=by simp[C3,Jl,C2];omega
 have api:aH.wrap ((d:Int)*8)=((d*8:Nat):Int):=by simp[C3,Jl,C2];omega
 go_upto_region 1 with fail;refine ar ?_;refine v3 ?_;refine pl a 1 9 ?_ (hv:=sx (k:=1) N.out.1 aa);refine aJ (J aH (d:Int)) (by(show _=_;go_simp;try rw[apk])) ?_;refine aJ (J aH ((d*8:Nat):Int)) (by(show _=_;go_simp;try rw[api])) ?_;refine pk (J aH ((d*8:Nat):Int)) ?_;refine ak ?_;go_upto_region 2 with fail;refine ar ?_;refine ga a #[J ea 128] 5 (λeP aS a=>?_);refine v3 ?_;refine pl a 2 8 ?_ (hv:=sx (k:=0) N.out.1 aa);refine ag ?_;refine mN 119 (rs.length:Int) ((119 -rs.length:Nat):Int) ?_;refine aJ (J R ((f:Nat):Int)) (Qs 3 (bc 20) (qh (J R 64)) 3 aa (119 -rs.length) 64 f aa aa bj aox ae) ?_;replace a:=a.Az 0 1 1 1 [a' 128] aa (cp _) bj aa;refine ac2 a 0 (aj8 1 R (a' 0) aa aa aa (a.atR 0) ae bj dJ Tryz.underlying3 aw aa) (λX zE bN a=>?_);have dT:[a' 128]++fu f (a' 0)=(128::(fu f 0++vk (d*8) 8)).map a':=by simp[vk]
 rw[dT]at a;clear dT;refine ag ?_;refine ak ?_;go_upto_region 3 with fail;refine ar ?_;refine ag ?_;refine ak ?_;go_wp2_with fail;go_loopw [4,5] (λev n wr=>∃(r z:Nat) (x:Int) (h:Option bW) (p:Nat),(r<=8/\z+r=8/\x+1=(r:Int))/\n=J R x/\ev=ad h (1+f+z) p/\ai w (iO t B A msg).c5 wr [bp h (1+f+z) p 5 1 ((128::(fu f 0++vk (d*8) r)).map a'),ah I (aY a' (fu 32 0) []) 23,ah B (aY cb (ws) [ad A rs.length b1,J R (d:Int)]) t,ww A rs.length b1 5 (rs.map a')]) (λ_ n _=>(cx n+1).toNat);case atStart=>exact⟨8,0,7,X,zE,ae,aa,aa,a⟩
 case round=>
  clear a;obtain⟨r,z,x,h,p,⟨ao2,abx,aom⟩,rfl,rfl,a⟩:=hrel;obtain rfl|⟨i,rfl⟩:r=0\/∃i,r=i+1:=by cases r;exact bJ aa;exact b3 ⟨_,aa⟩
  .obtain rfl:x=-1:=ae;obtain rfl:z=8:=ae;replace a:=iO.close (msg:=msg) (c:=b1) ht (l:=[bp h (rH msg).length p 5 1 ((rH msg).map a'),ah I (aY a' (fu 32 0) []) 23]) (by rw[D.out.1,D.out.2.1,D.out.2.2,C.out.1,C.out.2];exact a.pick [2,3,0,1]);have eN:Hid (∀W,Has W (iO t B A msg)->bT W h (rH msg)->(∀b off,h=ab ⟨b,off,af⟩->¬(iO t B A msg).c5 b)->aD ax 241 #[ay (ab ⟨B,0,af⟩),ad h (1+f+8) p] W λe w'=>e=aA (.tuple #[])/\∃U,Turned W w' (iO t B A msg) (iO t B U (msg++rH msg))):=hid (λW h1 h2 h3=>by rw[<-C.out.1];exact take_at B t A h p msg (rH msg) W (by have:=C.out.1;have:=D.out.2.2;omega) h1 h2 h3);go_upto_region 7 with fail;refine ar ?_;refine v2 ?_;refine a7 (eN.out _ (a.has 0) (Row.nS (a.atR 1)).1 (λb off e=>a.ne (i:=1) (j:=0) aa aa bj b ⟨off,af,e⟩)) ?_;rintro e cc ⟨rfl,Y,bH⟩;replace a:=a.eG 0 bH;refine bb ?_;refine ak ?_;obtain⟨oj,K⟩:=iO.split a;obtain⟨g,F⟩:=ex (iY (msg++rH msg)).1;have P:g.length=8:=by rw[<-F];exact(Cv _).1
   rw[F]at K;replace a:=K.pk [0,3];have aiT:=hid P;have aiU:=hid F;clear P F K;obtain⟨ajp,O⟩:=ex (ad Y (iY (msg++rH msg)).2.length oj);obtain⟨n9,S⟩:=ex (J R ((msg++rH msg).length:Int));rw[O,S]at a;clear O S;go_upto_region 8 with fail;refine ar ?_;refine bA a (aY a' (yJ g 0) []) (λZ cG a=>?_);refine ak ?_;go_upto_region 9 with fail;refine ar ?_;refine ag ?_;refine ak ?_;go_wp2_with fail;go_loopw [38] (λn wr=>∃q:Nat,q<=32/\n=J R q/\ai w (iO t B A msg).c5 wr [ah Z (aY a' (yJ g q) []) 23,ah B (aY cb (g) [ajp,n9]) t,ah I (aY a' (fu 32 0) []) 23]) (λn wr=>32 -(cx n).toNat);case atStart=>exact⟨0,ae,aa,a⟩
   case round=>
    clear a;obtain⟨q,hq,rfl,a⟩:=hrel;by_cases hlt:q<32
    .have cJ:(q:Int)<32:=ae;obtain⟨oH,T⟩:=ex (q/4);have ay8:oH<8:=ae;obtain⟨o,hr4⟩:=ex (q%4);have ayW:o<4:=ae;obtain⟨y,HT⟩:=ex (24 -o*8);have ao4:y<=32:=ae;go_upto_region 11 with fail;refine ar ?_;refine v2 ?_;refine ak ?_;go_upto_region 12 with fail;refine ar ?_;refine v3 ?_;refine aJ (J R (oH:Int)) (Bl 3 (bc 43) (qh (J R 4)) 3 aa q 4 oH aa aa bj T ae) ?_;refine v2 ?_;refine mM ?_;refine o7 a 1 aiT.out ?_;refine ag ?_;refine aJ (J R (o:Int)) (Qs 3 (bc 49) (qh (J R 4)) 3 aa q 4 o aa aa bj hr4 ae) ?_;refine Io (o:Int) 8 ((o*8:Nat):Int) ?_;refine mN 24 ((o*8:Nat):Int) (y:Int) ?_;refine aJ (cb ((g[oH]?.getD 0).fdiv (2^y))) (Bm 315 (bc 48) (bc 52) 3 aa .u32 R _ y aa aa ao4) ?_;refine pk (a' (ea.wrap ((g[oH]?.getD 0).fdiv (2^y)))) ?_;refine mM ?_;refine E1 a 0 (EY ..) (λc6 a=>?_);refine ak ?_;go_wp2_with fail;go_roundw;case rel=>exact⟨q+1,ae,by go_num,by rw[yJ,o5,T,hr4,HT];exact a.pick [0,1,2]⟩
     case measure=>simp[cx];omega
    .have aoc:ic msg=yJ g q:=by rw[ic,aiU.out,show q=32 by omega]
     have cJ:¬((q:Int)<32):=ae;go_upto_region 14 with fail;refine ar ?_;refine MC a 0 (EY ..) ?_;refine Cq a 2 (ry ..) (EY ..) (λdX a=>?_);refine ak ?_;go_wp2_with fail;refine dp (v:=av (aY a' (yJ g q) [])) (je aa _ _ _ _ _ _ _ aa (a.a1 2) Tryz.underlying23 aa (by rw[j7,(EY ..)];rfl)) aa (⟨by first|rfl|rw[aoc],a.dT.gj 0⟩)
  .obtain rfl:x=(i:Int):=ae;have RP:8*i<=64:=ae;go_upto_region 6 with fail;refine ar ?_;refine v3 ?_;refine Io 8 (i:Int) ((8*i:Nat):Int) ?_;refine aJ (J aH (((d*8:Nat):Int).fdiv (2^(8*i)))) (Bm 42 (bc 28) (bc 30) 3 aa aH R _ (8*i) aa aa RP) ?_;refine pk (a' (w5 (d*8) i)) ?_;refine ga a #[a' (w5 (d*8) i)] 5 (λgS dH a=>?_);refine np (m:=1) a 1 1 (aX.cellsOf (m:=1) (a.a1 0) aa) (by intro u hu;rw[List.mem_singleton.1 hu];rfl) (λV KB e9 a=>?_);refine ag ?_;refine ak ?_;go_upto_region 5 with fail;refine ar ?_;refine ag ?_;refine mN (i:Int) 1 ((i:Int) -1) ?_;refine ag ?_;refine ak ?_;go_wp2_with fail;go_roundw;case rel=>exact⟨i,z+1,(i:Int) -1,V,KB,ae,by go_num,aa,by rw[amz ae,show(128::(fu f 0++(vk (d*8) (i+1)++[w5 (d*8) i]))).map a'=((128::(fu f 0++vk (d*8) (i+1))).map a'++([a' (w5 (d*8) i)])) by simp];exact a.pick [1,2,3,4]⟩
   case measure=>simp[cx]<;>omega
attribute [irreducible] ic rH
end Go.Proofs.YtcmhplknoglbkaaGreat
