/- Part 24 of the proof of TopConvertsSaid. -/
import Derived.Test.YtcmhplknoglbkaaGreat0
import Derived.Test.YtcmhplknoglbkaaGreat6
import Derived.Test.YtcmhplknoglbkaaGreat23
set_option linter.all false
set_option maxRecDepth 100000
set_option maxHeartbeats 4000000
open Go.Proofs.Tryz
open Array renaming replicate_succ->qc,replicate_zero->qd
open Bool renaming false->au
open Go renaming Calls->aD,execOp->bw,results->n1,run_copy_row->JC,undef->aZ,wpList_nil->ak
open Go.Ending renaming returned->aA
open Go.IntKind renaming i64->R
open Go.Next renaming value->c8
open Go.Operand renaming tmp->bc
open Go.Proofs.Tryz renaming func280->U7,prog->ax,underlying22->dJ
open Go.Result renaming andThen_ok->ji
open Go.RowKit renaming Hid->aE
open Go.Sem renaming run_bind->gl,run_pure->jR
open Go.TypeDesc renaming slice->hU
open Go.Value renaming agg->av,bool->aj,int->J,pointer->ay,slice->ad,tuple->bh
open List renaming append_assoc->j5,append_toArray->qq,cons_append->py,foldl_append->Xa,foldl_cons->zp,getElem?_append_left->tB,getElem?_append_right->oa,getElem?_drop->Dx,length_append->dw,length_cons->jT,length_drop->u4,length_map->gW,length_nil->l2,length_replicate->ry,length_singleton->wA,map_cons->jx,map_nil->kC,map_toArray->ob,nil_append->na,push_toArray->qs,replicate->fu,size_toArray->iR
open Nat renaming le_mul_of_pos_left->Gu,le_refl->cp,le_trans->eD,lt_or_ge->Xk,zero_le->cQ
open Option renaming none->af,some->ab
namespace Go.Proofs.YtcmhplknoglbkaaGreat
section
open Go.RowKit Go.MapKept
section
variable {P:Program} {o:Oper} {a:Act} {w:World}
def SR{ty t B:Nat}{v}(hb:aX w B #[v] t)(b:(P.underlying ty).map (λd=>d.isRow)=ab au):(loadVar ty ⟨B,0,af⟩).run P w=.ok v w:=by
 have hc:=hb.cell 0 aa;cases hq:P.underlying ty with
 |none=>grind
 |some d=>
  have a:d.isRow=false:=aG
  have hagg:(isAgg ty).run P w=.ok au w:=by unfold isAgg;rw[gl,run_underlying hq w];cases d<;>simp_all
  simp[loadVar,hagg,hc]
def E8{a}{p ty t B:Nat}{v tmps}(h:a.results=#[.cell p ty])(b:tmps.getD p aZ=ay (ab ⟨B,0,af⟩))(hb:aX w B #[v] t)(c:(P.underlying ty).map (λd=>d.isRow)=ab au):(n1 a tmps).run P w=.ok v w:=by rw[xj h,b];simp[asAddr,SR (P:=P) hb c]
def adI {a} {p ty t B c e t2 jN:Nat} {v v2 tmps} (h:a.results=#[.cell p ty,.cell c e]) (b:tmps.getD p aZ=ay (ab ⟨B,0,af⟩)) (hb:aX w B #[v] t) (g:(P.underlying ty).map (λd=>d.isRow)=ab au)
 (pX:tmps.getD c aZ=ay (ab ⟨jN,0,af⟩)) (hb2:aX w jN #[v2] t2) (Sr:(P.underlying e).map (λd=>d.isRow)=ab au):(n1 a tmps).run P w=.ok (bh #[v,v2]) w:=by
 have h1:=SR (P:=P) hb g;have f:=SR (P:=P) hb2 Sr;simp only[n1,h];simp only[Array.getD_eq_getD_getElem?]at b pX;simp[b,pX,asAddr,h1,f]
def atJ {d g} {b f c B off n cap m c2 t:Nat} {aK old new cs} (l:o.op=.call {callee:=.builtin .copy,args:=#[d,g],argTypes:=#[b,f]}) (k:a.eval d=ad (ab ⟨B,off,af⟩) n cap) (q:a.eval g=ad aK m c2) (e:aX w B old t) (hr:Cells w 1 aK m cs) (u:n<=m) (r:0<n)
 (o0:off+n<=old.size) (h1:∀v∈cs,v.oneCell'=true) (lS:(old.toList.take off++cs.take n++old.toList.drop (off+n)).toArray=new) (hu:P.underlying b=ab (hU c)) (hs:(P.info? c).map (·.size)=ab 1):
 ∃w',(bw a.eval o).run P w=.ok (c8 (J R (n:Int))) w'/\Turned w w' (ah B old t) (ah B new t):=by
 obtain⟨h,rfl,p⟩:=hr.2 ae;have hcs:=by simpa using hr.1
 have i:(cs.take n).length=n:=aG;have hr:=JC (P:=P) w b f o.type _ B off n cap h m c2 _ t (cs.take n) hu hs e aG (λj v s=>p j v aG) ae (λv hv=>h1 v (List.mem_of_mem_take hv));refine⟨w.setRow B (old.toList.take off++cs.take n++old.toList.drop (off+n)).toArray,?_,vd (aq.setRow w B _) ?_⟩;·unfold bw;simp only[l,resolve,invoke,builtin,gl,jR,ji,ob,jx,kC,k,q,hr,i];rfl
 .rw[<-lS];exact e.setRow _
end
def aeo {P o} {a:Act} {w} (t e:Nat) (x lo) (b:o.op=.slice t x (ab lo) af af) (f:P.underlying t=ab (hU e)) (d:(P.info? e).map (·.size)=ab 1) (B n c i m:Nat)
 (hx:a.eval x=ad (ab ⟨B,0,af⟩) n c) (ka:a.eval lo=J R (i:Int)) (hm:i+m=n) (h2:n<=c) (hi:i<c):(bw a.eval o).run P w=.ok (c8 (ad (ab ⟨B,i,af⟩) m (c -i))) w:=by
 have h:=Au (w:=w) t e 1 x lo b f d _ n c i m hx ka hm h2;rw[afb hi]at h;exact h
def ajv{bs b:List Int}{off n}(h:n<=b.length):((aY a' bs []).toList.take off++(b.map a').take n++(aY a' bs []).toList.drop (off+n)).toArray=aY a' (ig bs off (b.take n)) []:=by have e:(b.take n).length=n:=aG;simp[aY,ig,e]
def rdStep(d:dM)(o:Nat)(out:List Int)(x:Nat×Nat×Nat):List Int:=ig out (x.2.1 -o) (((mO d x.1).drop (x.2.1 -x.1*d.size)).take x.2.2)
def o8(d:dM)(o n:Nat):List Int:=(oF d.size o n).foldl (rdStep d o) (fu n 0)
def Gw(d:dM)(o n:Nat)(x:Nat×Nat×Nat):Prop:=x.1*d.size<=x.2.1/\o<=x.2.1/\0<x.2.2/\x.2.1+x.2.2<=o+n/\x.2.1+x.2.2<=x.1*d.size+d.size/\x.1<d.cnt
def Ts{d}(b:dS d){o n}(g:o+n<=d.bytes.length){x}(hx:x∈oF d.size o n):Gw d o n x:=by
 obtain⟨h1,c,e⟩:=asB b.mj hx;have a:=ado (i:=_) b.mj c e;rw[<-h1]at a;refine⟨a.1,a.2.1,a.2.2.1,a.2.2.2.1,a.2.2.2.2,?_⟩;have f:x.1*d.size<d.cnt*d.size:=by rw[<-b.len];omega
 exact Nat.lt_of_mul_lt_mul_right f
def asP{d}(g:dS d){o n out x}(hx:Gw d o n x)(h:out.length=n):(rdStep d o out x).length=n:=by obtain⟨h1,a,b,c,e,f⟩:=hx;grind[rdStep,Ai]
def Tx{d}(a:dS d){o n}:∀(l:List (Nat×Nat×Nat)) out,(∀x∈l,Gw d o n x)->out.length=n->(l.foldl (rdStep d o) out).length=n
 |[],_,_,h=>h
 |x::l,out,hx,h=>by rw[zp];exact Tx a l _ (λy b=>hx y (List.mem_cons_of_mem _ b)) (asP a (hx x (List.mem_cons_self ..)) h)
theorem An{d}(a:dS d){o n}(b:o+n<=d.bytes.length):(o8 d o n).length=n:=Tx a _ _ (λ_ hx=>Ts a b hx) ry
def ai.akm{an w:World}{FX:Nat->Prop}{l:List bu}{B:Nat}{bs:List Int}(h:ai an FX w l)(i:Nat)(hi:l[i]?=ab (ah B (aY a' bs []) 5):=by rfl):ai an FX w (l.set i (cf (ab ⟨B,0,af⟩) bs.length bs)):=
 h.as i hi _ (λhb=>⟨GD hb,λb off a e=>by
  injection e with e;injection e with bD b9;subst bD;exact⟨cQ _,_,hb⟩,cp _⟩) (λb ⟨off,a,e⟩=>by
  injection e with e;injection e with bD b9;exact bD.symm)
def Y5 B m d(o n)w(hs:Has w (aO B m d))(f:dS d)(cZ:d.down=au)(K:o+n<=d.bytes.length):
 aD ax 130 #[di B,gJ ((o:Int),(n:Int))] w λe w'=>∃A c,e=aA (bh #[ad A n c,J R 0])/\b5 w w' (cf A c (o8 d o n)):=by
 have hbl:d.bytes.length<=1048576:=by rw[f.len];exact f.small
 have hs1:=f.mj;have hs2:d.size<=d.bytes.length:=by rw[f.len];exact Gu _ f.ve
 have Hk:∀i:Nat,i<d.cnt->j9 d i=0:=λi hi=>by grind[j9]
 have uX:aE (∀i W,i<d.cnt->Has W _->aD ax 209 _ W λe w'=>∃O U,e=aA (bh #[ad O d.size U,J R 0])/\b5 W w' (cf O U (mO d i))):=hid (λi W hi h=>(YB B m d i W h f).mono (λe w' hh=>aG));have G:aE (∀x∈oF _ o n,Gw d o n x):=hid (λx hx=>Ts f K hx);obtain⟨xs,M⟩:=ex (oF d.size o n);have W2:=hid M;have iC:∀bZ p,xZ ax 280 #[ay (ab ⟨bZ,0,af⟩),ay (ab ⟨p,0,af⟩)] (λx:Nat×Nat×Nat=>#[J R (x.1:Int),gJ ((x.2.1:Int),(x.2.2:Int))]) w (λ_=>False) (both (ah bZ #[J R (d.size:Int)] 3) (ah p #[J R (o:Int),J R (n:Int)] 35)) (λ_=>True) xs:=λbZ p=>by grind[ac4]
 have Q:aE (o8 d o n=xs.foldl (rdStep d o) (fu n 0)):=hid (by grind[o8]);rw[M]at G;have lq:aE (∀W,Has W _->aD _ _ #[di B,av #[J _ (o:Int),J _ (n:Int)]] W λe w'=>e=aA _/\ao W w'):=hid (λW h=>YV B m d o n W h.dev f K);clear Hk M;refine Bq func130 aa ?_;simp only[ntmps130,iR,jT,l2,qc,qd,qs,qq,na,py];have a:=bg w;have z:=hid hs;go_step;refine aF ?_;refine bO a (ay _) (λr w1 a=>?_);refine bO a (av #[J _ (o:Int),J _ (n:Int)]) (λs aS a=>?_);refine bA a #[ad _ 0 0] (λee bN a=>?_);refine bA a #[J _ 0] (λeL cc a=>?_);refine ak ?_;go_step;refine aF ?_;refine pl a 3 0 ?_;refine bt a 2 #[J R (o:Int),J R (n:Int)] ?_;refine a7 (lq _ (z.out.aI a.only)) ?_;rintro e cG ⟨rfl,g⟩;replace a:=a.aI g;refine bb ?_;refine ag ?_;refine ak ?_;go_step;refine aF ?_;refine ag ?_;refine pk (aj au) ?_;refine ak ?_;go_step;refine aF ?_;refine ag ?_;refine pl a 2 1 ?_;refine Im a (Ta n aa aa aa dJ aT ae) (λj c6 a=>?_);refine bA a #[ad _ 0 0] (λv dX a=>?_);refine ba a 0 (ad _ n n) (λdH a=>?_);refine ak ?_;go_step;refine dh ?_;refine bP a [1,3] (λi u=>match i with|1=>J R (d.size:Int)|3=>.func (.func 280) #[] #[ay (ab ⟨u.b,0,af⟩),ay (ab ⟨u.eZ,0,af⟩)]|_=>aZ) (λk=>λ|3=>both (ah (k 3).b #[J R (d.size:Int)] 3) (ah (k 3).eZ #[J R (o:Int),J R (n:Int)] 35)|_=>emp) (λ_=>[]) (λ|0=>[5]|2=>[4]|_=>[]) (λ|3=>[3]|_=>[]) [0,1,2,3,4,5,7,9] (λk=>?_);refine dl 0 0 ?_;refine df (λwl Fr a=>(wK B m d _ (z.out.aI a.only).dev f).mono ?_) ?_;·rintro e dn ⟨rfl,g⟩;exact⟨{},aa,(a.aI g).dT⟩
 refine eb 0 #[J R (o:Int),J R (n:Int)] ?_;refine df (λwl Fr a=>(ac5 _ o n _).mono ?_) ?_;·rintro e dn ⟨bZ,p,rfl,I⟩;exact⟨{b:=bZ,eZ:=p},aa,a.new _ I⟩
 refine bS λe9 a=>?_;generalize (k 3).b=aws at a⊢;generalize (k 3).eZ=awt at a⊢;replace a:=a.drop 6;go_wp2_with fail;have T:ai _ _ _ [both _ _,bQ [ah r #[ay _] 32,ah s #[J R _,J R (n:Int)] 35,ah v _ 22,ah j _ 5],bQ [ah eL _ 47,ah ee _ 22]]:=ai.DI (a.pick [6,5,4,0,1,2,3]);refine IT (encs:=(λx:Nat×Nat×Nat=>#[J R (x.1:Int),gJ _])) aa (enters_of U7 aT aa) (λ_=>aa) (iC _ _) (λpre t=>t=bQ [ah r _ 32,ah s _ 35,ah v _ 22,ah j (aY a' (pre.foldl (rdStep d o) _) []) 5]) (λ_ _ _=>False) aa T ?_ ?_ ?_;all_goals clear T a
 .rintro l rd pre x W t F L pY rfl a;replace a:=a.lE;repeat((fail_if_success (with_reducible refine at_region ?_));gi_step)
  refine ke ?_;refine ag ?_;refine ak ?_;repeat((fail_if_success (with_reducible refine at_region ?_));gi_step)
  refine ke ?_;refine bA a #[J _ 0,J _ 0] (λjO hT a=>?_);refine ba a 0 (av _) (λi' a=>?_);refine ak ?_;first|refine wpIn_skip ?_|skip
  simp only[Exit.then];refine Bk a 5 pY (λks a=>?_);replace a:ai _ _ _ [ah jO _ 35,ah r _ 32,ah s _ 35,ah v _ 22,ah j _ 5,obj l _,F]:=a;have kK:=adm L;obtain⟨vH,o6,E0,Il,Ti,Mx⟩:=G x kK;obtain⟨N,C⟩:=ex (pre.foldl (rdStep d o) (fu n 0));have Z:N.length=n:=by rw[<-C];exact Tx f _ _ (λy hy=>G y (L.subset (List.mem_append_left _ hy))) ry
  have S:aE ((pre++[x]).foldl _ _=ig N _ _):=hid (by rw[Xa,C];rfl);have Py:=hid Z;rw[C]at a;clear C Z kK;obtain⟨q,X⟩:=ex (x.1*d.size);have Y:(x.1:Int)*(d.size:Int)=(q:Int):=ae;rw[X]at vH Ti S;have Pv:=hid Y;have z1:=Is f Mx;have H:=hid z1;clear X Y z1 L;repeat((fail_if_success (with_reducible refine at_region ?_));gi_step)
  refine ke ?_;refine pl a 1 0 ?_;refine ag ?_;refine a7 (uX _ _ Mx (z.out.aI a.only)) ?_;rintro e lf ⟨mS,V,rfl,I⟩;replace a:=a.new _ I;refine bb ?_;refine v5 ?_;refine ak ?_;repeat((fail_if_success (with_reducible refine at_region ?_));gi_step)
  refine ke ?_;refine ag ?_;refine pk (aj au) ?_;refine ak ?_;repeat((fail_if_success (with_reducible refine at_region ?_));gi_step)
  refine T6 a [15,19] (λi _=>match i with|15=>J R (d.size:Int)|19=>J R (x.2.2:Int)|_=>aZ) (λ_=>λ|19=>ah j (aY a' (ig N (x.2.1 -o) (((mO d x.1).drop (x.2.1 -q)).take x.2.2)) []) 5|_=>emp) (λ|19=>[5]|_=>[]) (λ|0=>[4]|2=>[1]|4=>[3]|8=>[1]|12=>[1]|14=>[2]|18=>[0]|19=>[0]|_=>[]) (λ_=>[]) [0,1,2,3,4,6,7,23,27] (λk=>?_);refine dl 0 0 ?_;refine aL ?_;refine dl 0 0 ?_;refine aL ?_;refine dl 0 0 ?_;refine aM _ (λ_ _ _=>pH 3 _ _ 3 aa _ _ ((x.2.1 -o:Nat):Int) aa aa ae ae ae) ?_;refine aM _ (λ_ _ _=>aeo 22 5 _ (bc 41) aa dJ aT j n n _ (n -(x.2.1 -o)) aa aa ae ae ae) ?_;refine aL ?_;refine dl 0 1 ?_;refine aM _ (λ_ _ _=>qV 22 5 1 _ _ aa dJ aT _ _ _ x.2.2 aa aa ae) ?_;refine br ?_;refine dl 0 0 ?_;refine aL ?_;refine dl 0 0 ?_;refine df (λwl Fr a=>(wK B m d _ (z.out.aI a.only).dev f).mono ?_) ?_;·rintro e dn ⟨rfl,g⟩;exact⟨{},aa,(a.aI g).dT⟩
  refine aM _ (λ_ _ _=>nE 3 _ _ 3 aa _ _ _ aa aa Pv ae ae) ?_;refine aM _ (λ_ _ _=>pH 3 _ _ 3 aa _ _ ((x.2.1 -q:Nat):Int) aa aa ae ae ae) ?_;refine aM _ (λ_ _ a=>Au 22 5 1 (bc 46) _ aa dJ aT mS d.size V _ (d.size -(x.2.1 -q)) aa aa ae (by have:=(a.lr 0).2.2;rw[H]at this;exact this)) ?_;refine DS (J R (x.2.2:Int)) (λ_ _ a=>atJ aa aa aa (a.a1 0) (by have h:=((a.lr 1).1.Fp (c:=V) (i:=x.2.1 -q) (a.lr 1).2.2).cells;rw[u4,H]at h;exact h) ae E0 (by rw[j7,Py];omega) (vG _) (show _=aY a' _ []from ajv (by rw[u4,H];omega)) dJ aT) ?_;refine bS λmm a=>?_;replace a:=a.drop 7;repeat gi_step
  have E:=a.pk [2,3,4,7,5,6];replace E:ai _ _ _ [bQ [ah r _ 32,ah s _ 35,ah v _ 22,ah j _ 5],obj l _,F]:=E.fC 4;refine⟨_,?_,E⟩;exact(by show _=_;rw[S])
 .rintro D t u W rfl hu a;replace a:=a.lE;replace a:=(a.pk [6,0,1,2,3,4,5]).lE;go_step;refine aF ?_;refine pl a 4 0 ?_;refine ba a 1 (ad _ n n) (λnU a=>?_);refine ba a 0 (J _ 0) (λpa a=>?_);refine ak ?_;have hlen:(xs.foldl (rdStep d o) (fu n 0)).length=n:=by rw[<-Q];exact An f K
  go_wp2_with fail;refine yF a 7 (λw' a=>⟨adI aa aa (a.a1 1) aw aa (a.a1 0) aw,?_⟩);have P:=ai.akm a 5;rw[hlen,<-Q]at P;exact⟨_,n,aa,P.fresh 5⟩
 .simp
end
section
open Go.RowKit Go.MapKept
section
variable {P:Program} {o:Oper} {a:Act} {w:World}
def atK {d x} {f v l c q g cap m c2:Nat} {A aK bs news} (D:o.op=.call {callee:=.builtin .copy,args:=#[d,x],argTypes:=#[f,v]}) (p:a.eval d=ad (fF A c q 1) g cap) (G:a.eval x=ad aK m c2) (j:e3 0 w A c bs) (hr:Cells w 1 aK m (news.map a')) (M:m<=g) (z:0<m) (L:q+m<=bs.length)
 (hu:P.underlying f=ab (hU l)) (hs:(P.info? l).map (·.size)=ab 1):
 ∃w',(bw a.eval o).run P w=.ok (c8 (J R (m:Int))) w'/\Turned w w' (cf A c bs) (cf A c (ig bs q news)):=by
 obtain⟨y,rfl,F⟩:=hr.2 z;have hcs:=by simpa using hr.1
 obtain⟨b,off,rfl,hc⟩:=j.1 ae;obtain⟨_,cur,hb⟩:=j.2.1 b off af aa;have hlc:=j.2.2;have H:fF (ab (⟨b,off,af⟩:Addr)) c q 1=ab ⟨b,off+q,af⟩:=by grind[fF,nD]
 rw[H]at p;have r:∀k,k<bs.length->cur[off+k]?=ab (a' (bs[k]?.getD 0)):=λk hk=>by grind[World.cell?]
 have hsz:off+bs.length<=cur.size:=by have h1:=r (bs.length -1) ae;obtain⟨n,_⟩:=Array.getElem?_eq_some_iff.1 h1;omega
 have hr:=JC (P:=P) w f v o.type _ b (off+q) g cap y m c2 _ 5 _ hu hs hb aG F aG (vG _);have B:(news.map a').length=m:=aG;have C:=hb.setRow (cur.toList.take (off+q)++news.map a'++cur.toList.drop (off+q+m)).toArray;have E:(ig bs q news).length=bs.length:=Ai ae;refine⟨w.setRow b (cur.toList.take (off+q)++news.map a'++cur.toList.drop (off+q+m)).toArray,?_,(aq.setRow w b _).mono (λi _ h=>⟨off,af,by rw[h]⟩),⟨λ_=>⟨b,off,rfl,λk hk=>?_⟩,λeZ I K e=>?_,ae⟩,λi hi=>⟨?_,.inl hi⟩⟩;·unfold bw;simp only[D,resolve,invoke,builtin,gl,jR,ji,ob,jx,kC,p,G,hr,B];rfl
 .rw[E]at hk;refine C.cell _ ?_;have s:=r k hk;rw[<-Array.getElem?_toList]at s;rw[List.getElem?_toArray];have t:(cur.toList.take (off+q)).length=off+q:=aG;have u:(bs.take q).length=q:=aG;unfold ig;rcases Xk k q with h1|h1;·grind[tB]
  .rcases Xk k (q+m)with n|n;·rw[j5,oa ae,t,tB ae,j5,oa ae,u,tB ae,show off+k -(off+q)=k -q by omega,List.getElem?_map,List.getElem?_eq_getElem ae];rfl
   .rw[oa aG,dw,t,gW,hcs,Dx,show off+q+m+(off+k -(off+q+m))=off+k by omega,s,
     oa aG,dw,u,hcs,Dx,show q+m+(k -(q+m))=k by omega]
 .grind
 .obtain⟨I,K,e⟩:=hi;grind
end
def mn(o:Nat)(bs:List Int)(st:Int×dM)(x:Nat×Nat×Nat):Int×dM:=
 if st.1≠0 then st else jC st.2 (x.1:Int) (ig (mO st.2 x.1) (x.2.1 -x.1*st.2.size) ((bs.drop (x.2.1 -o)).take x.2.2))
def ma(d:dM)(o:Nat)(bs:List Int):Int×dM:=(oF d.size o bs.length).foldl (mn o bs) (0,d)
def Nd{o bs}:∀(l:List (Nat×Nat×Nat)) st,st.1≠0->l.foldl (mn o bs) st=st
 |[],_,_=>aa
 |x::l,st,h=>by rw[zp,show mn o bs st x=st by unfold mn;rw[if_pos h]];exact Nd l st h
def avF{d}{n:Nat}{b}:(jC d (n:Int) b).2.size=d.size/\(jC d (n:Int) b).2.cnt=d.cnt:=by
 unfold jC;split;·simp
 .split;·simp
  .split;·exact⟨aa,aa⟩
   .split;·exact⟨aa,aa⟩
    .exact⟨aa,aa⟩
def avG{d}{n:Nat}{b}(h:(jC d (n:Int) b).1=0):(jC d (n:Int) b).2.down=d.down/\(jC d (n:Int) b).2.cache.length<=d.cache.length+1:=by
 unfold jC at h⊢;split at h;·omega
 .rename_i c;rw[if_neg c];split at h;·omega
  .rename_i h1;rw[if_neg h1];split at h;·rename_i a;rw[if_pos a];exact⟨aa,by show(d.cache++[(_,b)]).length<=_;simp⟩
   .rename_i a;rw[if_neg a];split at h;·rename_i e;rw[if_pos e];exact⟨aa,by show(d.cache++[(_,b)]).length<=_;simp⟩
    .omega
structure DD (d cE:dM) (k:Nat):Prop where
 ok:dS cE
 size:cE.size=d.size
 cnt:cE.cnt=d.cnt
 down:cE.down=au
 en:cE.cache.length<=d.cache.length+k
def DD.step{d cE k o bs x}(h:DD d cE k)(hk:d.cache.length+k<1073741824)(hx:(mn o bs (0,cE) x).1=0):DD d (mn o bs (0,cE) x).2 (k+1):=by unfold mn at hx⊢;rw[if_neg aU]at hx⊢;have h1:=h.en;have a:=avG hx;have b:=@avF cE x.1 (ig (mO cE x.1) (x.2.1 -x.1*cE.size) ((bs.drop (x.2.1 -o)).take x.2.2));exact⟨T9 h.ok _ _ ae,b.1.trans h.size,b.2.trans h.cnt,a.1.trans h.down,eD a.2 aG⟩
def Y' B m d(o p)A c bs w(hs:Has w (aO B m d))(s:dS d)(cZ:d.down=au)(hn:o+bs.length<=d.bytes.length)(hf:d.cache.length<=1000000000)(hp:w.cell? ⟨p,0,af⟩=ab (ad A bs.length c))(yw:¬(aO B m d).c5 p)(hb:bT w A bs)(Rv:∀y,dV A y->¬(aO B m d).c5 y):
 aD ax 291 #[di B,J R (o:Int),ad (ab ⟨p,0,af⟩) 1 1] w λe w'=>e=aA (J R (ma d o bs).1)/\∃f,Turned w w' (aO B m d) (aO B f (ma d o bs).2):=by
 have hbl:d.bytes.length<=1048576:=by rw[s.len];exact s.small
 have hs1:=s.mj;have hs2:d.size<=d.bytes.length:=by rw[s.len];exact Gu _ s.ve
 have mW:aE (∀x∈oF _ o _,Gw d o _ x):=hid (λx hx=>Ts s hn hx);obtain⟨xs,Z⟩:=ex (oF d.size o bs.length);have iJ:xs.length<=d.bytes.length+1:=by rw[<-Z,oF,gW,List.length_range];unfold fh;split;exact cQ _;exact Nat.succ_le_succ (eD (Nat.sub_le _ _) (eD (Nat.div_le_self _ _) ae))
 have wv:=hid iJ;have iC:∀bZ G,xZ ax 280 #[ay (ab ⟨bZ,0,af⟩),ay (ab ⟨G,0,af⟩)] (λx:Nat×Nat×Nat=>#[J R (x.1:Int),gJ ((x.2.1:Int),(x.2.2:Int))]) w (aO B m d).c5 (both (ah bZ #[J R (d.size:Int)] 3) (ah G #[J R (o:Int),J R (bs.length:Int)] 35)) (λ_=>True) xs:=λbZ G=>by grind[ac4]
 have W1:aE (ma d o bs=xs.foldl (mn o bs) (0,d)):=hid (by grind[ma]);rw[Z]at mW;have lq:aE (∀W,Has W _->aD _ _ #[di B,av #[J _ (o:Int),J _ (bs.length:Int)]] W λe w'=>e=aA _/\ao W w'):=hid (λW h=>YV B m d o _ W h.dev s hn);clear Z iJ;have bK:=hid (λW g=>GM p A c bs W (g.cell hp yw) (hb.only g (λb off e=>Rv b ⟨_,_,e⟩)) ae);clear hp hb yw Rv;refine Bq func291 aa ?_;simp only[ntmps291,iR,jT,l2,qc,qd,qs,qq,na,py];have a:=ai.start hs;go_step;refine aF ?_;refine bO a (ay _) (λH w1 a=>?_);refine bO a (J _ _) (λI aS a=>?_);refine bA a #[J _ 0] (λK bN a=>?_);refine ak ?_;go_step;refine aF ?_;refine ag ?_;refine a7 (bK _ a.only) ?_;rintro e cc ⟨n,k,rfl,hrow,g⟩;replace a:=a.js g (Row.nS hrow);refine bb ?_;refine bA a #[ad _ 0 0] (λL cG a=>?_);refine ba a 0 (ad n _ k) (λc6 a=>?_);refine ak ?_;go_step;refine aF ?_;refine pl a 3 0 ?_;refine pl a 0 0 ?_;refine v2 ?_;refine bA a #[J _ 0,J _ 0] (λeX dX a=>?_);refine ba a 0 (av _) (λdH a=>?_);refine ak ?_;go_step;refine aF ?_;refine pl a 5 0 ?_;refine bt a 0 #[J R (o:Int),J R (bs.length:Int)] ?_;refine a7 (lq _ (a.has 6)) ?_;rintro e e9 ⟨rfl,g⟩;replace a:=a.aI g;refine bb ?_;refine ag ?_;refine ak ?_;go_step;refine aF ?_;refine ag ?_;refine pk (aj au) ?_;refine ak ?_;go_step;refine dh ?_;refine bP a [1,3] (λi u=>match i with|1=>J R (d.size:Int)|3=>.func (.func 280) #[] #[ay (ab ⟨u.b,0,af⟩),ay (ab ⟨u.eZ,0,af⟩)]|_=>aZ) (λE=>λ|3=>both (ah (E 3).b #[J R (d.size:Int)] 3) (ah (E 3).eZ #[J R (o:Int),J R (bs.length:Int)] 35)|_=>emp) (λ_=>[]) (λ|0=>[5]|1=>[6]|2=>[0]|_=>[]) (λ|3=>[3]|_=>[]) [0,1,2,3,4,5,6,8,10] (λE=>?_);refine dl 0 0 ?_;refine df (λwl Fr a=>(wK B m d _ (a.has 0).dev s).mono ?_) ?_;·rintro e dn ⟨rfl,g⟩;exact⟨{},aa,(a.aI g).dT⟩
 refine eb 0 #[J R (o:Int),J R (bs.length:Int)] ?_;refine df (λwl Fr a=>(ac5 d.size o _ _).mono ?_) ?_;·rintro e dn ⟨bZ,G,rfl,V⟩;exact⟨{b:=bZ,eZ:=G},aa,a.new _ V⟩
 refine bS λhT a=>?_;generalize (E 3).b=awv at a⊢;generalize (E 3).eZ=awu at a⊢;replace a:=a.drop 7;go_wp2_with fail;have eN:ai _ _ _ [both _ _,bQ [ah H #[ay _] 32,ah I #[J R _] 3,ah L _ 22,ah K _ 47,cf n k bs,aO B m d],bQ [ah eX _ 35]]:=ai.DI (a.pick [7,5,4,1,3,2,6,0]);refine IT (encs:=(λx:Nat×Nat×Nat=>#[J R (x.1:Int),gJ _])) aa (enters_of U7 aT aa) (λ_=>aa) (iC _ _) (λpre t=>∃f cE,pre.foldl (mn o bs) (0,d)=(0,cE)/\DD d cE pre.length/\t=bQ [ah H _ 32,ah I #[J R (o:Int)] 3,ah L _ 22,ah K #[J R 0] 47,cf n k bs,aO B f cE]) (λc pre t=>match c with|.ret=>∃f cE bq,bq≠0/\pre.foldl (mn o bs) (0,d)=(bq,cE)/\t=bQ [ah H #[ay (ab ⟨B,0,af⟩)] 32,ah I #[J R (o:Int)] 3,ah L #[ad n bs.length k] 22,ah K #[J R bq] 47,cf n k bs,aO B f cE]|_=>False) (⟨m,d,aa,⟨s,aa,aa,cZ,cp _⟩,aa⟩) eN ?_ ?_ ?_;all_goals clear eN a
 .rintro l rd pre x W t F O pY ⟨f,cE,C,r,rfl⟩ a;replace a:=a.lE;repeat((fail_if_success (with_reducible refine at_region ?_));gi_step)
  refine ke ?_;refine ag ?_;refine ak ?_;repeat((fail_if_success (with_reducible refine at_region ?_));gi_step)
  refine ke ?_;refine bA a #[J _ 0,J _ 0] (λy2 i' a=>?_);refine ba a 0 (av _) (λks a=>?_);refine ak ?_;first|refine wpIn_skip ?_|skip
  simp only[Exit.then];refine Bk a 7 pY (λlf a=>?_);replace a:ai _ _ _ [ah _ _ 35,ah H _ 32,ah I _ 3,ah L _ 22,ah K _ 47,cf n k bs,aO B f cE,obj l _,F]:=a;have kK:=adm O;have hpl:=O.length_le;rw[dw,wA]at hpl;have zV:d.cache.length+pre.length<1073741824:=by have:=wv.out;omega
  obtain⟨vH,o6,E0,Il,Ti,Mx⟩:=mW x kK;have aiW:=hid r;have ayc:=r.en;have N:=r.ok;have hdd:=r.size;have hcc:x.1<cE.cnt:=by rw[r.cnt];exact Mx
  have Hk:j9 cE (x.1:Int)=0:=by rw[j9,if_neg (by rw[r.down];simp),if_neg ae]
  have uX:aE (∀W,Has W _->aD ax 209 _ W λe w'=>∃az aC,e=aA (bh #[ad az d.size aC,J R 0])/\b5 W w' (cf az aC (mO cE x.1))):=hid (λW h=>(YB B f cE x.1 W h N).mono (λe w' hh=>aG));have qo:aE (∀W,Has W _->aD _ 51 #[di B] W λe w'=>e=aA _/\ao W w'):=hid (λW h=>by have q:=wK B f cE W h.dev N;rw[hdd]at q;exact q);obtain⟨P,yq⟩:=ex (x.1*d.size);have rS:(x.1:Int)*(d.size:Int)=(P:Int):=ae;have z1:(mO cE x.1).length=d.size:=by grind[Is]
  obtain⟨z,ng⟩:=ex (ig (mO cE x.1) (x.2.1 -P) ((bs.drop (x.2.1 -o)).take x.2.2));have hst:mn o bs (0,cE) x=jC cE (x.1:Int) z:=by grind[mn]
  have X:(pre++[x]).foldl (mn o bs) (0,d)=jC cE (x.1:Int) z:=aG;rw[yq]at vH Ti;have ZV:((bs.drop (x.2.1 -o)).take x.2.2).length=x.2.2:=aG;have hM:z.length=d.size:=by grind[Ai]
  obtain⟨bq,dr⟩:=ex ((jC cE (x.1:Int) z).1);obtain⟨M,jV⟩:=ex ((jC cE (x.1:Int) z).2);have Y:jC cE (x.1:Int) z=(bq,M):=aG;have sr:=hid (λW fK dC h h2 h3=>by have q:=al9 B f cE x.1 fK dC z W h N ae h2 ae h3;rw[hM,dr,jV]at q;exact q);have Pv:=hid rS;have Di:=hid z1;have zj:=hid ng;have eK:=hid (hst.trans Y);rw[Y]at X;have AX:=hid X;have axe:=hid hdd;have axf:=hid N;clear yq rS z1 O ng hst Y dr jV C X hdd Hk kK hcc ZV hM r N;repeat((fail_if_success (with_reducible refine at_region ?_));gi_step)
  refine ke ?_;refine pl a 1 0 ?_;refine ag ?_;refine a7 (uX _ (a.has 6)) ?_;rintro e mm ⟨S,U,rfl,V⟩;replace a:=a.new _ V;refine bb ?_;refine v5 ?_;refine ak ?_;repeat((fail_if_success (with_reducible refine at_region ?_));gi_step)
  refine ke ?_;refine ag ?_;refine pk (aj au) ?_;refine ak ?_;repeat((fail_if_success (with_reducible refine at_region ?_));gi_step)
  refine T6 a [5,18] (λi _=>match i with|5=>J R (d.size:Int)|18=>J R (x.2.2:Int)|_=>aZ) (λ_=>λ|18=>cf S U (ig (mO cE x.1) (x.2.1 -P) ((bs.drop (x.2.1 -o)).take x.2.2))|_=>emp) (λ|18=>[0]|_=>[]) (λ|2=>[1]|4=>[2]|5=>[7]|8=>[0]|9=>[4]|11=>[1]|12=>[3]|14=>[6]|16=>[1]|17=>[6]|18=>[6]|_=>[]) (λ_=>[]) [1,2,3,4,5,6,7,8,9,15,28] (λE=>?_);refine br ?_;refine dl 0 0 ?_;refine aL ?_;refine dl 0 0 ?_;refine df (λwl Fr a=>(qo _ (a.has 0)).mono ?_) ?_;·rintro e dn ⟨rfl,g⟩;exact⟨{},aa,(a.aI g).dT⟩
  refine aM _ (λ_ _ _=>nE 3 _ _ 3 aa _ _ _ aa aa Pv ae ae) ?_;refine aM _ (λ_ _ _=>pH 3 _ _ 3 aa _ _ ((x.2.1 -P:Nat):Int) aa aa ae ae ae) ?_;refine aM _ (λ_ _ a=>Au 22 5 1 (bc 42) _ aa dJ aT S d.size U _ (d.size -(x.2.1 -P)) aa aa ae (by have:=(a.lr 0).2.2;rw[Di]at this;exact this)) ?_;refine dl 0 0 ?_;refine aL ?_;refine dl 0 0 ?_;refine dl 0 0 ?_;refine aM _ (λ_ _ _=>pH 3 _ _ 3 aa _ _ ((x.2.1 -o:Nat):Int) aa aa ae ae ae) ?_;refine aM _ (λ_ _ a=>Au 22 5 1 (bc 51) (bc 55) aa dJ aT n bs.length k (x.2.1 -o) (bs.length -(x.2.1 -o)) aa aa ae (a.lr 0).2.2) ?_;refine aL ?_;refine dl 0 1 ?_;refine aM _ (λ_ _ a=>qV 22 5 1 _ _ aa dJ aT _ _ _ x.2.2 aa aa (by have:=(a.lr 0).2.2;omega)) ?_;refine DS _ (λ_ _ a=>atK aa aa aa (a.lr 0) (by have h:=(((a.lr 1).1.Fp (c:=k) (i:=x.2.1 -o) (a.lr 1).2.2).Fo (q:=x.2.2) aG).cells;rw[List.length_take,u4,Nat.min_eq_left ae]at h;exact h) ae E0 (by rw[Di];omega) dJ aT) ?_;refine bS λnU a=>?_;replace a:=a.drop 9;rw[zj]at a;repeat((fail_if_success (with_reducible refine at_region ?_));gi_step)
  refine ke ?_;refine pl a 1 0 ?_;refine v2 ?_;refine a7 (sr.out _ S U (a.has 6) (a.lr 9).1 (a.ne (i:=9) (j:=6) aa aa bj)) ?_;rintro e pa ⟨rfl,Q,bH⟩;replace a:=a.eG 6 bH;refine bb ?_;refine ag ?_;refine ak ?_;by_cases hz:bq=0
  .subst hz;repeat((fail_if_success (with_reducible refine at_region ?_));gi_step)
   refine ke ?_;refine ag ?_;refine pk (aj au) ?_;refine ak ?_;repeat gi_step
   have v:=a.pk [1,2,3,4,5,6,7,8];replace v:ai _ _ _ [bQ [ah _ _ 32,ah _ _ 3,ah _ _ 22,ah _ _ 47,cf n k bs,aO B Q M],obj l _,F]:=v.fC 6;refine⟨_,?_,v⟩;exact⟨Q,M,AX,by rw[dw,wA];have h:=aiW.out.step (o:=o) (bs:=bs) (x:=x) zV (by rw[eK]);rw[eK]at h;exact h,aa⟩
  .have LV:=hz;repeat((fail_if_success (with_reducible refine at_region ?_));gi_step)
   refine ke ?_;refine ag ?_;refine aJ (aj true) (by(go_simp;try simp[LV])) ?_;refine ak ?_;repeat((fail_if_success (with_reducible refine at_region ?_));gi_step)
   refine ke ?_;refine ag ?_;refine ba a 4 (J _ bq) (λta a=>?_);refine ak ?_;repeat gi_step
   have v:=a.pk [1,2,3,4,5,6,7,8];replace v:ai _ _ _ [bQ [ah H _ 32,ah I #[J R (o:Int)] 3,ah L _ 22,ah K #[J R bq] 47,cf n k bs,aO B Q M],obj l _,F]:=v.fC 6;refine⟨_,?_,v⟩;exact⟨Q,M,bq,hz,AX,aa⟩
 .rintro D t u W ⟨f,cE,C,r,rfl⟩ hu a;replace a:=a.lE;replace a:=(a.pk [8,0,1,2,3,4,5,6,7]).lE;have T:=hid (W1.out.trans C);clear C r;go_step;refine aF ?_;refine ba a 4 (J _ 0) (λtb a=>?_);refine ak ?_;go_wp2_with fail;refine yF a 8 (λw' a=>⟨E8 aa aa (a.a1 4) aw,?_⟩);rw[T];exact⟨aa,f,a.gj 6⟩
 .rintro D c pre t u W O h a;cases c with
  |ret=>
   obtain⟨f,cE,bq,hz,C,rfl⟩:=h;replace a:=a.lE;have T:aE (ma d o bs=(bq,cE)):=hid (by obtain⟨l,hl⟩:=O;rw[W1,<-hl,Xa,C];exact Nd l _ hz);go_wp2_with fail;refine yF a 7 (λw' a=>⟨E8 aa aa (a.a1 3) aw,?_⟩);rw[T];exact⟨aa,f,a.gj 5⟩
  |_=>exact h.elim
end
end Go.Proofs.YtcmhplknoglbkaaGreat
