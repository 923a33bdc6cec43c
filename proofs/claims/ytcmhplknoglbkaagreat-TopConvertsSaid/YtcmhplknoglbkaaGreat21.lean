/- Part 21 of the proof of TopConvertsSaid. -/
import Derived.Lib.SlicesCompact
import Derived.Test.YtcmhplknoglbkaaGreat0
import Derived.Test.YtcmhplknoglbkaaGreat6
import Derived.Test.YtcmhplknoglbkaaGreat13
import Derived.Test.YtcmhplknoglbkaaGreat14
import Derived.Test.YtcmhplknoglbkaaGreat18
import Derived.Test.YtcmhplknoglbkaaGreat20
set_option linter.all false
set_option maxRecDepth 100000
set_option maxHeartbeats 4000000
open Go.Proofs.Tryz
open BitVec renaming ofInt->nt
open Bool renaming false->au,true->aB
open Go.Callee renaming builtin->nY
open Go renaming Calls->aD,builtin->pq,callFunc->kj,execOp->bw,resolve->mU,wpList_nil->ak,wp_region_lit->ar
open Go.ChangeMaps renaming setBlock->kR
open Go.Ending renaming returned->aA
open Go.Fn renaming func->ek
open Go.IntKind renaming i64->R,u64->aH
open Go.Oper renaming wp->hC
open Go.Proofs.AnyE renaming slices_DeleteFunc->awY
open Go.Proofs.Tryz renaming func292->agy,func327->agB,func338->Vb,func64->agK,ntmps292->ahj,ntmps338->Vy,prog->ax
open Go.Proofs renaming intOf->cg
open Go.Result renaming andThen_ok->ji
open Go.RowKit renaming Hid->aE
open Go.Sem renaming run_bind->gl,run_pure->jR
open Go.Sort renaming ahead->Jz
open Go.Value renaming bool->aj,func->dK,int->J,map->dF,ownBlock->tr,slice->ad,tuple->bh
open List renaming append_inj'->PX,append_nil->j6,countP_cons->Gp,eq_nil_iff_forall_not_mem->Du,eq_nil_or_concat->J8,getElem?_eq_getElem->cm,length_filter_le->xU,length_map->gW,map_cons->jx,map_nil->kC,map_toArray->ob,mem_append->iD,mem_cons_of_mem->pA,mem_filter->mZ,mem_of_getElem?->cM,nodup_append->xV,not_mem_nil->gb,take_add_one->fv
open Nat renaming le_refl->cp,mul_le_mul_right->tE,strongRecOn->P9,zero_le->cQ
open Option renaming none->af,some->ab
namespace Go.Proofs.YtcmhplknoglbkaaGreat
section
open Go.RowKit Go.MapKept Go.WideMaps
open Go.ChangeMaps (setBlock heap_setBlock_same heap_setBlock_other)
def Al(size:Nat)(bs:List Int)(i:Nat)(b:List Int):List Int:=bs.take (i*size)++b++bs.drop (i*size+b.length)
def asD{size i bs b}(hb:b.length=size)(h:(i+1)*size<=bs.length):(Al size bs i b).length=bs.length:=by grind[Al]
def qP(d:dM)(a:Nat->Bool):Nat->List Int
 |0=>d.bytes
 |q+1=>match d.cache[q]? with
  |some x=>if a q=aB then Al d.size (qP d a q) x.1 x.2 else qP d a q
  |none=>qP d a q
def s0(d:dM)(a:Nat->Bool):dM:={d with bytes:=qP d a d.cache.length,cache:=[]}
theorem MB{d}(b:dS d)c:∀q,(qP d c q).length=d.bytes.length
 |0=>aa
 |q+1=>by
  have a:=MB b c q;unfold qP;split
  .rename_i x hx;split;·have h:=b.cache x (cM hx);rw[asD h.2 (by rw[a,b.len];exact tE _ h.1),a]
   .exact a
  .exact a
def Tq{d}(a:dS d)b:dS (s0 d b):=
 ⟨a.mj,a.ve,(MB a b _).trans a.len,a.small,λx hx=>absurd hx gb,cQ _,a.wr⟩
theorem afb{B c i}(h:i<c):fF (ab ⟨B,0,af⟩) c i 1=ab ⟨B,i,af⟩:=by grind[fF,nD]
def Row.range{w}{N g n c e sz k:Nat}{A xs cs}(h:Row N w A n c e sz xs)(a:A=ab ⟨g,0,af⟩)(hk:∀j v,cs[j]?=ab v->xs[k+j]?=ab v):w.rangeAt g k cs:=λj v hv=>by obtain⟨g2,e,hc⟩:=h.cell (hk j v hv);rw[a]at e;cases e;exact hc
theorem ajw{bs b size i}:((aY a' bs []).toList.take (i*size)++b.map a'++(aY a' bs []).toList.drop (i*size+b.length)).toArray=aY a' (Al size bs i b) []:=by simp[aY,Al]
section
variable {P:Program} {o:Oper} {a:Act} {w:World}
def atI {d g} {b f c B off n cap c2 t:Nat} {aK old new cs} (k:o.op=.call {callee:=nY .copy,args:=#[d,g],argTypes:=#[b,f]}) (i:a.eval d=ad (ab ⟨B,off,af⟩) n cap) (m:a.eval g=ad aK n c2) (e:aX w B old t) (hr:Cells w 1 aK n cs) (j:0<n)
 (o0:off+n<=old.size) (h1:∀v∈cs,v.oneCell'=aB) (lS:(old.toList.take off++cs++old.toList.drop (off+cs.length)).toArray=new) (hu:P.underlying b=ab (.slice c)) (hs:(P.info? c).map (·.size)=ab 1):
 ∃w',(bw a.eval o).run P w=.ok (.value (J R (n:Int))) w'/\Turned w w' (ah B old t) (ah B new t):=by
 obtain⟨h,rfl,l⟩:=hr.2 j;have hcs:cs.length=n:=by simpa using hr.1
 have hr:=run_copy_row (P:=P) w b f o.type c B off n cap h n c2 old t cs hu hs e aG l ae h1;refine⟨w.setRow B (old.toList.take off++cs++old.toList.drop (off+n)).toArray,?_,vd (aq.setRow w B _) ?_⟩;·unfold bw;simp only[k,mU,invoke,pq,gl,jR,ji,ob,jx,kC,i,m,hr,hcs];rfl
 .rw[<-lS,hcs];exact e.setRow _
def atH{x}{t k e b:Nat}{l}(d:o.op=.call {callee:=nY .clear,args:=#[x],argTypes:=#[t]})(hx:a.eval x=dF (ab b))(f:P.underlying t=ab (.map k e))(h:(jM b l).p w):
 ∃w',(bw a.eval o).run P w=.ok (.value (bh #[])) w'/\Turned w w' (jM b l) (jM b []):=by
 obtain⟨m,⟨g,c,hb,_⟩,_⟩:=h
 refine⟨kR w b _,?_,⟨aa,aa,aa,by simp[kR],λi _ hi=>heap_setBlock_other hb _ (λe=>hi (by rw[e];rfl))⟩,⟨[],⟨_,_,heap_setBlock_same hb _,stamped_empty c,aU,aU,aU⟩,cp _,λi=>rfl⟩,λi hi=>⟨by have j:i=b:=hi;grind[kR],.inl hi⟩⟩;unfold bw;simp[d,mU,invoke,pq,hx,Builtin.clear_,run_underlying f,MapKept.run_getObj_map hb,MapKept.run_setObj_map _ hb,Result.andThen,kR]
end
def QZ B m d (g:Nat) lb f w (p:Has w (aO B m d)) (k:dS d) (F:∀args w,(kj g args).run ax w=.ok (.enter g args) w)
 (hk:∀q W,q<m.L.length->aq (aO B m d).c5 w W->aX W B (pL m d) 120->aD ax g (#[J R (q:Int)]++lb) W λe w'=>e=aA (aj (f q))/\ao W w'):
 aD ax 63 #[di B,dK (ek g) #[] lb] w λe w'=>e=aA (bh #[])/\∃T,Turned w w' (aO B m d) (aO B T (s0 d f)):=by
 obtain⟨cC,e2,A,c,L⟩:=m;have X:L.length<=1073741824:=by have h:=k.en;rw[p.plain,nu.plain,gW]at h;exact h
 have hpl:d.cache=L.map (λx=>(x.sec,x.bs)):=p.plain;have C:=hid hpl;have y:aE (∀q W,q<L.length->aq (aO B ⟨cC,e2,A,c,L⟩ d).c5 w W->aX W B #[J R (d.size:Int),ad (ab ⟨cC,0,af⟩) d.bytes.length d.bytes.length,J R d.writes,J aH d.keep,J R d.et,J R d.e0,J R d.ir,J R d.hi,J R d.cW,ad A L.length c,dF (ab e2),aj d.down] 120->aD ax g (#[J R (q:Int)]++lb) W λe w'=>e=aA (aj (f q))/\ao W w'):=hid hk;have t:=hid F;clear hk F hpl;go_enter func63,ntmps63;have a:ai w (aO B ⟨cC,e2,A,c,L⟩ d).c5 w [ah B #[J R (d.size:Int),ad (ab ⟨cC,0,af⟩) d.bytes.length d.bytes.length,J R d.writes,J aH d.keep,J R d.et,J R d.e0,J R d.ir,J R d.hi,J R d.cW,ad A L.length c,dF (ab e2),aj d.down] 120,ah cC (aY a' (d.bytes) []) 5,jM e2 (d.cache.map (·.1)),bp A L.length c 258 2 (l4 L),lZ L]:=(ai.zG (ai.start p)).2;go_upto_region 0 with fail;refine ar ?_;refine v3 ?_;refine pl a 0 9 ?_;refine dQ ?_;go_wp2_with fail;go_loopw [11] (λr wr=>∃q:Nat,q<=L.length/\r=J R q/\ai w (aO B ⟨cC,e2,A,c,L⟩ d).c5 wr [ah B #[J R (d.size:Int),ad (ab ⟨cC,0,af⟩) d.bytes.length d.bytes.length,J R d.writes,J aH d.keep,J R d.et,J R d.e0,J R d.ir,J R d.hi,J R d.cW,ad A L.length c,dF (ab e2),aj d.down] 120,ah cC (aY a' (qP d f q) []) 5,jM e2 (d.cache.map (·.1)),bp A L.length c 258 2 (l4 L),lZ L]) (λr wr=>L.length -(intOf r).toNat);case atStart=>exact⟨0,ae,aa,a⟩
 case round=>
  clear a;obtain⟨q,Z,rfl,a⟩:=hrel;by_cases hlt:q<L.length
  .have P:(q:Int)<(L.length:Int):=ae;obtain⟨x,hx⟩:∃x,L[q]?=ab x:=⟨_,cm hlt⟩;obtain⟨O,G,_⟩:=(a.atR 3).cell (QA hx).1;have H:d.cache[q]?=ab (x.sec,x.bs):=by rw[C.out,List.getElem?_map,hx];rfl
   have Q:=k.cache _ (cM H);obtain⟨o,n⟩:=Q;have o:x.sec<d.cnt:=o;have n:x.bs.length=d.size:=n;have S:=cM hx;have z:aE (qP d f (q+1)=if f q=aB then Al d.size (qP d f q) x.sec x.bs else qP d f q):=hid (by grind[qP]);have D:=hid (QA hx);have E:=hid n;have s:=hid G;have Y:x.sec*d.size+d.size<=d.bytes.length:=by have h1:=tE d.size o;rw[Nat.succ_mul]at h1;rw[k.len];exact h1
   have hs1:=k.mj;have N:aE (∀W,aX W B #[J R (d.size:Int),ad (ab ⟨cC,0,af⟩) d.bytes.length d.bytes.length,J R d.writes,J aH d.keep,J R d.et,J R d.e0,J R d.ir,J R d.hi,J R d.cW,ad A L.length c,dF (ab e2),aj d.down] 120->aD ax 146 #[di B,J R (x.sec:Int)] W λe w'=>e=aA (ad (ab ⟨cC,x.sec*d.size,af⟩) d.size (d.bytes.length -x.sec*d.size))/\ao W w'):=hid (λW h=>by have q:=YC B ⟨cC,e2,A,c,L⟩ d x.sec o W h k;grind[afb]);clear H hx n G;go_upto_region 2 with fail;refine ar ?_;refine ag ?_;refine aJ _ (cI _ 258 2 _ _ aa underlying117 aw _ _ _ c q ((q*2)) (by show ad A _ _=_;rw[s.out]) aa hlt ae) ?_;refine aJ (.agg #[J R (x.sec:Int),ad x.A d.size x.c]) (by(refine e7 258 (.tmp 14) aa O (q*2) aa [J R (x.sec:Int),ad x.A d.size x.c] (Row.range (a.atR 3) s.out (λj v I=>?_)) underlying258 aa aw;obtain rfl|rfl|V:j=0\/j=1\/2<=j:=ae;(cases I;exact D.out.1);(cases I;rw[<-E.out];exact D.out.2);grind)) ?_;refine bA a #[J R 0,ad af 0 0] (λU w1 a=>?_);refine ag ?_;refine ba a 0 (.agg #[J R (x.sec:Int),ad x.A d.size x.c]) (λaS a=>?_);refine ak ?_;rcases zW:f q with _|_
   .have l:=hid zW;clear zW;refine jb ?_;refine bC ((by have h:=y.out q _ hlt a.only (a.a1 1);rw[l.out]at h;exact h)) a (λbN a=>?_) (hr:=by(go_simp;exact t.out _ _));refine aF ?_;refine pad (q:Int) 1 ((q+1:Nat):Int) ?_;refine bR ?_;go_wp2_with fail;go_roundw;case rel=>exact⟨q+1,ae,aa,by rw[z.out,l.out];exact a.pick [1,2,3,4,5]⟩
    case measure=>grind[intOf]
   .have l:=hid zW;clear zW;refine jb ?_;refine bC ((by have h:=y.out q _ hlt a.only (a.a1 1);rw[l.out]at h;exact h)) a (λcc a=>?_) (hr:=by(go_simp;exact t.out _ _));refine dh ?_;refine bP a [5,8] (λi _=>match i with|5=>ad (ab ⟨cC,x.sec*d.size,af⟩) d.size (d.bytes.length -x.sec*d.size)|8=>J R (d.size:Int)|_=>undef) (λ_=>λ|8=>ah cC (aY a' (Al d.size (qP d f q) x.sec x.bs) []) 5|_=>emp) (λ|8=>[2]|_=>[]) (λ|4=>[0]|5=>[1]|7=>[0]|8=>[5]|_=>[]) (λ_=>[]) [0,1,3,4,5,11,14] (λus=>?_);refine ix ?_;refine dl 0 0 ?_;refine dE (λ_ _ a=>N.out _ (a.a1 0)) ?_;refine aL ?_;refine dl 0 1 ?_;refine DS (J R (d.size:Int)) (λ_ _ a=>atI aa aa aa (a.a1 0) (by have h:=((a.at 1:∀x∈L,e3 0 _ x.A x.c x.bs) x S).1.cells;rw[E.out]at h;exact h) k.mj (by grind[j7,MB]) (vG _) (show _=aY a' (Al d.size (qP d f q) x.sec x.bs) []from by grind[ajw]) Tryz.underlying22 aw) ?_;refine bS λcG a=>?_;replace a:=a.drop 5;refine aF ?_;refine pad (q:Int) 1 ((q+1:Nat):Int) ?_;refine bR ?_;go_wp2_with fail;go_roundw;case rel=>exact⟨q+1,ae,aa,by rw[z.out,l.out];exact a.pick [1,5,2,3,4]⟩
    case measure=>grind[intOf]
  .have P:¬(q:Int)<(L.length:Int):=ae;obtain rfl:q=L.length:=ae;go_upto_region 6 with fail;refine ar ?_;refine v3 ?_;refine ba a 0 (ad af 0 0) (λc6 a=>?_);refine jt ?_;refine pl a 0 10 ?_;refine Cp a 2 (atH aa aa Tryz.underlying118 (a.at 2)) (λdX a=>?_);refine ak ?_;replace a:=(((a.drop 4).drop 3).new (lZ []) ⟨aq.refl _ _,λx hx=>absurd hx gb,λb ⟨x,hx,_⟩=>absurd hx gb⟩).new (bp af 0 0 oe 2 []) ⟨aq.refl _ _,Row.nil _ _ _ _,λb ⟨_,_,e⟩=>aG⟩;have M:=hid (show s0 d f={d with bytes:=qP d f L.length,cache:=[]}from by rw[s0,C.out,gW]);have u:=a.pk [2,3,4,0,1];have hbl:=MB k f L.length;rw[<-hbl]at u;have K:=ai.vh (B:=B) (m:=⟨cC,e2,af,0,[]⟩) (d:={d with bytes:=qP d f L.length,cache:=[]}) aa u;go_wp2_with fail;first|go_end0|refine bodyPost_ret (results_none rfl _ _ _) rfl ?_
   exact⟨aa,_,by rw[M.out];exact K.gj 0⟩
end
open Go.RowKit Go.MapKept Go.WideMaps
open Go.ChangeMaps (setBlock heap_setBlock_same heap_setBlock_other)
def ap3 q w:
 aD ax 327 #[J R q] w λe w'=>e=aA (aj aB)/\ao w w':=by
 go_enter agB,ntmps327;have a:=bg w;go_upto_region 0 with fail;refine ar ?_;refine ag ?_;refine aF ?_;refine ag ?_;refine ak ?_;go_wp2_with fail;go_ret;exact⟨aa,a.only⟩
def ap5 q w:
 aD ax 64 #[J R q] w λe w'=>e=aA (aj au)/\ao w w':=by
 go_enter agK,ntmps64;have a:=bg w;go_upto_region 0 with fail;refine ar ?_;refine ag ?_;refine aF ?_;refine ag ?_;refine ak ?_;go_wp2_with fail;go_ret;exact⟨aa,a.only⟩
def l9(d:dM):Int×dM:=if j9 d 0≠0 then(j9 d 0,d)else(0,{s0 d (λ_=>aB)with e0:=R.wrap ((s0 d (λ_=>aB)).e0+1)})
def Yz B m d w(p:Has w (aO B m d))(o:dS d):
 aD ax 292 #[di B] w λe w'=>e=aA (J R (l9 d).1)/\∃k,Turned w w' (aO B m d) (aO B k (l9 d).2):=by
 obtain⟨bq,i⟩:=ex (j9 d 0);have l:aE (∀W,aX W B (pL m d) 120->aD ax 281 #[di B,J R 0] W λe w'=>e=aA (J R bq)/\ao W w'):=hid (λW h=>by have q:=QW B m d 0 W h o;rw[i]at q;exact q);by_cases n:bq=0;·subst n;have g:aE (l9 d=(0,{s0 d (λ_=>aB)with e0:=R.wrap ((s0 d (λ_=>aB)).e0+1)})):=hid (by grind[l9]);clear i;go_enter agy,ahj;have f:=ai.start p;go_upto_region 0 with fail;refine ar ?_;refine cK ?_;refine bC (l.out _ (f.has 0).dev) f (λw1 f=>?_);refine cK ?_;refine pk (aj au) ?_;refine ak ?_;obtain⟨a,j⟩:=ex (s0 d (λ_=>aB));rw[j]at g;have r:aE (∀W,Has W (aO B m d)->aD ax 63 #[di B,dK (ek 327) #[] #[]] W λe w'=>e=aA (bh #[])/\∃k,Turned W w' (aO B m d) (aO B k a)):=hid (λW h=>by have q:=QZ B m d _ #[] (λ_=>aB) W h o (enters_of agB aw aa) (λq W _ _ _=>ap3 q W);rw[j]at q;exact q);clear j;refine b6 ?_;refine a7 (r.out _ (f.has 0)) ?_;rintro e u ⟨rfl,b,s⟩;replace f:=f.eG 0 s;refine AE ?_;replace f:=f.zG;obtain⟨hpl,f⟩:=f;replace f:ai _ _ _ [ah B #[J R (a.size:Int),ad (ab ⟨b.cC,0,af⟩) a.bytes.length a.bytes.length,J R a.writes,J aH a.keep,J R a.et,J R a.e0,J R a.ir,J R a.hi,J R a.cW,ad b.A b.L.length b.c,dF (ab b.e2),aj a.down] 120,ah b.cC (aY a' a.bytes []) 5,jM b.e2 (a.cache.map (·.1)),bp b.A b.L.length b.c oe 2 (l4 b.L),lZ b.L]:=f;refine oJ ?_;refine pl f 0 5 ?_;refine pk (J R (R.wrap (a.e0+1))) ?_;refine v3 ?_;refine ba f 0 (J R (R.wrap (a.e0+1))) (λv f=>?_);refine aF ?_;refine ag ?_;refine ak ?_;replace f:ai _ _ _ (aO B b ({a with e0:=R.wrap (a.e0+1)})::[]):=ai.vh hpl (f.pick (l':=[ah B #[J R (a.size:Int),ad (ab ⟨b.cC,0,af⟩) a.bytes.length a.bytes.length,J R a.writes,J aH a.keep,J R a.et,J R (R.wrap (a.e0+1)),J R a.ir,J R a.hi,J R a.cW,ad b.A b.L.length b.c,dF (ab b.e2),aj a.down] 120,ah b.cC (aY a' a.bytes []) 5,jM b.e2 (a.cache.map (·.1)),bp b.A b.L.length b.c oe 2 (l4 b.L),lZ b.L]) [0,1,2,3,4]);go_wp2_with fail;go_ret;exact⟨by rw[g.out];rfl,b,by rw[g.out];exact f.gj 0⟩
 .have t:¬bq=0:=n;have g:aE (l9 d=(bq,d)):=hid (by grind[l9]);clear i;go_enter agy,ahj;have f:=ai.start p;go_upto_region 0 with fail;refine ar ?_;refine cK ?_;refine bC (l.out _ (f.has 0).dev) f (λx f=>?_);refine cK ?_;refine aJ (aj aB) (by(go_simp;try simp[t])) ?_;refine aF ?_;refine dQ ?_;go_wp2_with fail;go_ret;exact⟨by rw[g.out];rfl,m,by rw[g.out];exact f.gj 0⟩
def sy(d:dM)(n a:Int):dM:={d with writes:=max n (-1),keep:=a}
def alO B m d(n b)w(f:Has w (aO B m d)):
 aD ax 11 #[di B,J R n,J aH b] w λe w'=>e=aA (bh #[])/\Turned w w' (aO B m d) (aO B m (sy d n b)):=by
 go_enter func11,ntmps11;have a:=ai.start f;go_upto_region 0 with fail;refine ar ?_;refine ag ?_;refine pk (aj aB) ?_;refine ak ?_;replace a:=a.zG;obtain⟨hpl,a⟩:=a;replace a:ai _ _ _ [ah B #[J R (d.size:Int),ad (ab ⟨m.cC,0,af⟩) d.bytes.length d.bytes.length,J R d.writes,J aH d.keep,J R d.et,J R d.e0,J R d.ir,J R d.hi,J R d.cW,ad m.A m.L.length m.c,dF (ab m.e2),aj d.down] 120,ah m.cC (aY a' d.bytes []) 5,jM m.e2 (d.cache.map (·.1)),bp m.A m.L.length m.c oe 2 (l4 m.L),lZ m.L]:=a;refine jb ?_;refine aJ (J R (max n (-1))) (by(go_simp;try with_reducible rfl)) ?_;refine v4 ?_;refine ba a 0 (.agg #[J R (max n (-1)),J aH b]) (λw1 a=>?_);refine ak ?_;replace a:ai _ _ _ (aO B m (sy d n b)::[]):=ai.vh hpl (a.pick (l':=[ah B #[J R (d.size:Int),ad (ab ⟨m.cC,0,af⟩) d.bytes.length d.bytes.length,J R (max n (-1)),J aH b,J R d.et,J R d.e0,J R d.ir,J R d.hi,J R d.cW,ad m.A m.L.length m.c,dF (ab m.e2),aj d.down] 120,ah m.cC (aY a' d.bytes []) 5,jM m.e2 (d.cache.map (·.1)),bp m.A m.L.length m.c oe 2 (l4 m.L),lZ m.L]) [0,1,2,3,4]);go_wp2_with fail;first|go_end0|refine bodyPost_ret (results_none rfl _ _ _) rfl ?_
 exact⟨aa,a.gj 0⟩
def uz(d:dM):dM:={s0 d (λ_=>au)with down:=au,writes:=-1}
def al4 B m d w(o:Has w (aO B m d))(n:dS d):
 aD ax 14 #[di B] w λe w'=>e=aA (bh #[])/\∃g,Turned w w' (aO B m d) (aO B g (uz d)):=by
 obtain⟨a,i⟩:=ex (s0 d (λ_=>au));have j:aE (uz d={a with down:=au,writes:=-1}):=hid (by grind[uz]);have k:aE (∀W,Has W (aO B m d)->aD ax 63 #[di B,dK (ek 64) #[] #[]] W λe w'=>e=aA (bh #[])/\∃g,Turned W w' (aO B m d) (aO B g a)):=hid (λW h=>by have q:=QZ B m d _ #[] (λ_=>au) W h n (enters_of agK aw aa) (λq W _ _ _=>ap5 q W);rw[i]at q;exact q);clear i;go_enter func14,ntmps14;have f:=ai.start o;go_upto_region 0 with fail;refine ar ?_;refine ag ?_;refine pk (aj aB) ?_;refine b6 ?_;refine a7 (k.out _ (f.has 0)) ?_;rintro e w1 ⟨rfl,b,l⟩;replace f:=f.eG 0 l;refine AE ?_;replace f:=f.zG;obtain⟨hpl,f⟩:=f;replace f:ai _ _ _ [ah B #[J R (a.size:Int),ad (ab ⟨b.cC,0,af⟩) a.bytes.length a.bytes.length,J R a.writes,J aH a.keep,J R a.et,J R a.e0,J R a.ir,J R a.hi,J R a.cW,ad b.A b.L.length b.c,dF (ab b.e2),aj a.down] 120,ah b.cC (aY a' a.bytes []) 5,jM b.e2 (a.cache.map (·.1)),bp b.A b.L.length b.c oe 2 (l4 b.L),lZ b.L]:=f;refine jt ?_;refine ba f 0 (aj au) (λp f=>?_);refine oJ ?_;refine ba f 0 (J R (-1)) (λr f=>?_);refine ak ?_;replace f:ai _ _ _ (aO B b ({a with down:=au,writes:=-1})::[]):=ai.vh hpl (f.pick (l':=[ah B #[J R (a.size:Int),ad (ab ⟨b.cC,0,af⟩) a.bytes.length a.bytes.length,J R (-1),J aH a.keep,J R a.et,J R a.e0,J R a.ir,J R a.hi,J R a.cW,ad b.A b.L.length b.c,dF (ab b.e2),aj au] 120,ah b.cC (aY a' a.bytes []) 5,jM b.e2 (a.cache.map (·.1)),bp b.A b.L.length b.c oe 2 (l4 b.L),lZ b.L]) [0,1,2,3,4]);go_wp2_with fail;first|go_end0|refine bodyPost_ret (results_none rfl _ _ _) rfl ?_
 exact⟨aa,b,by rw[j.out];exact f.gj 0⟩
def EC(keep:Int)(q:Nat):Bool:=(aH.wrap ((nt 64 (keep.fdiv (2^(q%64)))&&& nt 64 1).toNat:Int)==1)
def ap4(f B)m d(q:Nat)w(k:q<=1073741824)(hx:aX w f #[.pointer (ab ⟨B,0,af⟩)] 32)(hb:aX w B (pL m d) 120):
 aD ax 359 #[J R (q:Int),.pointer (ab ⟨f,0,af⟩)] w λe w'=>e=aA (aj (EC d.keep q))/\ao w w':=by
 have g:q%64<=64:=ae;obtain⟨z,hz⟩:=ex (q%64);have c:EC d.keep q=(aH.wrap ((nt 64 (d.keep.fdiv (2^z))&&& nt 64 1).toNat:Int)==1):=by rw[EC,hz]
 obtain⟨j,b⟩:=ex ((aH.wrap ((nt 64 (d.keep.fdiv (2^z))&&& nt 64 1).toNat:Int)==1));rw[b]at c;rw[c];rw[hz]at g;have i:=hid hz;have h:=hid b;clear hz c b;go_enter func359,ntmps359;have a:=bg w;go_upto_region 0 with fail;refine ar ?_;refine dR ?_;refine iL hx a.only ?_;refine v3 ?_;refine iL hb a.only ?_;refine ag ?_;refine aJ _ (Qs 3 _ _ 3 aa q 64 z aa aa ae i.out ae) ?_;refine aJ _ (Bm 42 _ _ 3 aa aH _ _ z aa aa g) ?_;refine pk (J aH (aH.wrap ((nt 64 (d.keep.fdiv (2^z))&&& nt 64 1).toNat:Int))) ?_;refine aJ (aj j) (by(rw[<-h.out];show _=_;kernel_rfl)) ?_;refine bR ?_;go_wp2_with fail;go_ret;exact⟨aa,a.only⟩
namespace G
def cut(E:List (Int×Int))(s:List Int):List (Int×Int):=E.filter (λe=>decide (e.1∉s/\e.2∉s))
theorem sV{E s u x}:(u,x)∈cut E s↔(u,x)∈E/\u∉s/\x∉s:=by simp[cut]
def GR E:cut E []=E:=by simp[cut]
theorem Path.mono{E E'}(h:∀e,e∈E->e∈E'){u x}(p:Path E u x):Path E' u x:=by
 induction p with
 |one e=>exact .one (h _ e)
 |more _ e a=>exact .more a (h _ e)
def Path.last{E u x}(p:Path E u x):∃y,(y,x)∈E:=by
 cases p with
 |one e=>grind
 |more _ e=>grind
def va(E:List (Int×Int))(N:Nat)(s out:List Int)(v:Int):Prop:=(0<=v/\v<N)/\v∉s/\v∉out/\∀u,(u,v)∈E->u∈s\/u∈out
def J5(E:List (Int×Int))(N:Nat)(s out:List Int)(v:Int):Prop:=va E N s out v/\∀u,va E N s out u->v<=u
inductive kl (E:List (Int×Int)) (N:Nat) (s:List Int):List Int->Prop where
 |nil:kl E N s []
 |snoc {out:List Int} {v:Int} (h:kl E N s out) (l:J5 E N s out v):kl E N s (out++[v])
def mx(E:List (Int×Int))(N:Nat)(s out:List Int):Prop:=kl E N s out/\∀v,¬va E N s out v
section
variable {E:List (Int×Int)} {N:Nat} {s out:List Int}
def kl.at{l}(h:kl E N s l):∀p a t,l=p++a::t->J5 E N s p a:=by
 induction h with
 |nil=>intro p a t e;cases p<;>cases e
 |snoc h l b=>
  intro p a t e;rcases J8 t with rfl|⟨b4,z,rfl⟩;·grind[PX]
  grind[PX]
def kl.ahead{l d}(h:kl E N s l)(b:mx E N s d):l<+:d:=by
 induction h with
 |nil=>simp
 |snoc h l e=>
  obtain⟨t,rfl⟩:=e;cases t with
  |nil=>rw[j6]at b;exact absurd l.1 (b.2 _)
  |cons a t=>
   have c:=b.1.at _ a t aa;have bD:=l.2 _ c.1;have b9:=c.2 _ l.1;obtain rfl:=Int.le_antisymm bD b9;exact⟨t,aU⟩
def mx.unique{l c}(h:mx E N s l)(b:mx E N s c):l=c:=by
 obtain⟨t,rfl⟩:=h.1.ahead b;cases t with
 |nil=>simp
 |cons a t=>exact absurd (b.1.at _ a t aa).1 (h.2 _)
def kl.nodup{l}(h:kl E N s l):l.Nodup/\∀v∈l,(0<=v/\v<N)/\v∉s:=by
 induction h with
 |nil=>simp
 |snoc h l d=>
  refine⟨xV.2 ⟨d.1,aU,?_⟩,?_⟩
  .intro a c b hb e;obtain rfl:b=_:=by simpa using hb
   exact l.1.2.2.1 (e▸c)
  .intro v hv;rcases iD.1 hv with hv|hv;·grind
   .obtain rfl:v=_:=by simpa using hv
    exact⟨l.1.1,l.1.2.1⟩
def kl.length{l}(h:kl E N s l):l.length<=N:=EJ h.nodup.1 (λx hx=>(h.nodup.2 x hx).1)
def ady{v}(h:va E N s out v):∃u,J5 E N s out u:=by
 generalize hk:v.toNat=k;induction k using P9 generalizing v with
 |_ k b=>
  by_cases a:∃u,va E N s out u/\u<v;·obtain⟨u,hr,hlt⟩:=a;have c:=hr.1.1;exact b _ ae hr aa
  .exact⟨v,h,λu hr=>aG⟩
def arJ k:∀{out},kl E N s out->N -out.length<=k->∃o,mx E N s o:=by
 induction k with
 |zero=>
  intro out h hk;refine⟨out,h,λv hv=>?_⟩;obtain⟨u,a⟩:=ady hv;have:=(kl.snoc h a).length;simp at this;omega
 |succ k b=>
  intro out h hk;by_cases hr:∃v,va E N s out v;·obtain⟨v,hv⟩:=hr;obtain⟨u,a⟩:=ady hv;have:=(kl.snoc h a).length;simp at this;exact b (kl.snoc h a) aG
  .exact⟨_,h,λv hv=>hr ⟨v,hv⟩⟩
def acU E N s:∃o,mx E N s o:=arJ N .nil aU
def kl.KT{l}(h:kl E N s l){u x}(a:(u,x)∈E)(b:u∉s)(hx:x∈l):u∈l/\l.idxOf u<l.idxOf x:=by obtain⟨p,t,rfl,c⟩:=List.eq_append_cons_of_mem hx;have d:=((h.at p x t aa).1.2.2.2 u a).resolve_left b;grind
def kl.path{l}(h:kl E N s l){u x}(p:Path (cut E s) u x)(hx:x∈l):u∈l/\l.idxOf u<l.idxOf x:=by
 induction p with
 |one e=>exact h.KT (sV.1 e).1 (sV.1 e).2.1 hx
 |more p e b=>
  have h1:=h.KT (sV.1 e).1 (sV.1 e).2.1 hx;have a:=b h1.1;exact⟨a.1,ae⟩
def kl.acw{l}(h:kl E N s l){x}(p:Path (cut E s) x x):x∉l:=λhx=>by have:=(h.path p hx).2;omega
def Yh{f:Type}{p q a}:∀{l:List f},(∀x∈l,p x=aB->q x=aB)->a∈l->p a=au->q a=aB->l.countP p<l.countP q
 |[],_,c,_,_=>by grind
 |b::r,h,c,d,e=>by
  have g:r.countP p<=r.countP q:=List.countP_mono_left (λx hx=>h x (pA _ hx));rw[Gp,Gp];rcases List.mem_cons.1 c with rfl|c;·grind
  .have:=Yh (λx hx=>h x (pA _ hx)) c d e;grind
def alG{S:Int->Prop}(hr:∀x,S x->0<=x/\x<(N:Int))(e:∀x,S x->∃u,S u/\(u,x)∈E){x}(hx:S x):∃c,S c/\Path E c c:=by
 classical
 generalize hk:(du N).countP (λz=>decide (S z/\Path E z x))=k;induction k using P9 generalizing x with
 |_ k f=>
  obtain⟨u,b,d⟩:=e x hx;by_cases hc:Path E u u;·grind
  .refine f _ ?_ b aa;rw[<-hk];refine Yh (a:=u) (λz _ hz=>?_) (qK.2 (hr u b)) ?_ ?_;·simp only[decide_eq_true_eq]at hz⊢;exact⟨hz.1,.more hz.2 d⟩
   .grind
   .simp;exact⟨b,.one d⟩
def mx.left(e:Valid N E){l}(h:mx E N s l){v}(hv:0<=v/\v<(N:Int))(d:v∉s)(a:v∉l):∃c,c∉l/\Path (cut E s) c c:=by
 obtain⟨c,hc,b⟩:=alG (E:=cut E s) (N:=N) (S:=λx=>(0<=x/\x<(N:Int))/\x∉s/\x∉l) (λx hx=>hx.1) (λx hx=>by
  by_cases g:∃u,(u,x)∈E/\u∉s/\u∉l;·grind[sV]
  .refine absurd ⟨hx.1,hx.2.1,hx.2.2,λu f=>?_⟩ (h.2 x);grind) ⟨hv,d,a⟩;exact⟨c,hc.2.2,b⟩
theorem Valid.cut{N}(a:Valid N E)s:Valid N (cut E s):=λe b=>a e (mZ.1 b).1
def kA(E:List (Int×Int))(s xs:List Int):Prop:=xs.Pairwise (·<·)/\∀x,x∈xs↔Path (cut E s) x x
def kA.unique{xs cq}(h:kA E s xs)(k:kA E s cq):xs=cq:=YO h.1 k.1 (λx=>(h.2 x).trans (k.2 x).symm)
def GS(a:Valid N E)s:∃xs,kA E s xs:=by
 classical
 refine⟨(du N).filter (λx=>decide (Path (cut E s) x x)),(CG N).filter _,λx=>?_⟩;rw[mZ,decide_eq_true_eq];exact⟨λh=>h.2,λh=>⟨qK.2 (Aj (a.cut s) h),h⟩⟩
def kp(N:Nat)(s out:List Int):List Int:=(du N).filter (λv=>!decide (v∈s)&&!decide (v∈out))
theorem Cf{v}:v∈kp N s out↔(0<=v/\v<(N:Int))/\v∉s/\v∉out:=by simp[kp,qK]
def mx.adG(b:Valid N E){l xs}(h:mx E N s l)(hx:kA E s xs):kp N s l=[]↔xs=[]:=by
 constructor;·intro hr;refine Du.2 (λx i=>?_);have a:=(hx.2 x).1 i;have g:=h.1.acw a;obtain⟨y,j⟩:=a.last;have:x∈kp N s l:=Cf.2 ⟨Aj (b.cut s) a,(sV.1 j).2.2,g⟩;rw[hr]at this;cases this
 .intro f;refine Du.2 (λv hv=>?_);obtain⟨h1,d,e⟩:=Cf.1 hv;obtain⟨c,_,a⟩:=h.left b h1 d e;have:=(hx.2 c).2 a;rw[f]at this;cases this
def kA.rest(b:Valid N E){l xs}(h:mx E N s l)(hx:kA E s xs){v}(hv:v∈xs):v∈kp N s l:=by have a:=(hx.2 v).1 hv;obtain⟨y,c⟩:=a.last;exact Cf.2 ⟨Aj (b.cut s) a,(sV.1 c).2.2,h.1.acw a⟩
end
def nV(ws:List Int)(v:Int):Int:=if 0<=v/\v<(ws.length:Int)then ws[v.toNat]?.getD 0 else 0
def Bo(f:Int->Int)(o:Option Int)(x:Int):Option Int:=match o with
 |none=>ab x
 |some y=>if f x<f y then ab x else ab y
def jA(f:Int->Int)(L:List Int):Option Int:=L.foldl (Bo f) af
def akf f:jA f []=none:=rfl
theorem Qr f L x:jA f (L++[x])=Bo f (jA f L) x:=by grind[jA]
def XS f o x:∃y,Bo f o x=ab y/\(y=x\/o=ab y):=by unfold Bo;grind
def aug{p:List Int->Prop}(a:p [])(h1:∀L x,p L->p (L++[x]))L:p L:=by
 have:∀n:Nat,∀L:List Int,L.length=n->p L:=by
  intro n;induction n with
  |zero=>grind
  |succ n b=>
   intro L h;rcases J8 L with rfl|⟨t,z,rfl⟩;·omega
   grind
 exact this _ L aa
def Qp{f L v}:jA f L=ab v->v∈L:=by revert v;refine aug (p:=λL=>∀{v},jA f L=ab v->v∈L) (λh=>by cases h) (λL x b v h=>?_) L;rw[Qr]at h;obtain⟨y,e,a⟩:=XS f (jA f L) x;grind
theorem Qq{f L}:jA f L=af↔L=[]:=by
 rcases J8 L with rfl|⟨t,z,rfl⟩;·simp[akf]
 .rw[List.concat_eq_append,Qr];obtain⟨y,e,_⟩:=XS f (jA f t) z;rw[e];simp
def kept(xs keep:List Int):List Int:=xs.filter (λv=>!decide (v∈keep))
def SV{xs keep v}:v∈kept xs keep↔v∈xs/\v∉keep:=by simp[kept]
inductive kQ (E:List (Int×Int)) (ws keep:List Int):List Int->Prop where
 |nil:kQ E ws keep []
 |snoc {out xs:List Int} {v:Int} (h:kQ E ws keep out) (hx:kA E out xs) (hb:jA (nV ws) (kept xs keep)=ab v):kQ E ws keep (out++[v])
def wx(E:List (Int×Int))(ws keep out xs:List Int):Prop:=kQ E ws keep out/\kA E out xs/\jA (nV ws) (kept xs keep)=af
section
variable {E:List (Int×Int)} {N:Nat} {ws keep out:List Int}
def kQ.at{l}(h:kQ E ws keep l):∀p a t,l=p++a::t->∃xs,kA E p xs/\jA (nV ws) (kept xs keep)=ab a:=by
 induction h with
 |nil=>intro p a t e;cases p<;>cases e
 |snoc h hx hb b=>
  intro p a t e;rcases J8 t with rfl|⟨b4,z,rfl⟩;·grind[PX]
  grind[PX]
def kQ.ahead{l c f}(h:kQ E ws keep l)(b:wx E ws keep c f):l<+:c:=by
 induction h with
 |nil=>simp
 |snoc h hx hb e=>
  obtain⟨t,rfl⟩:=e;cases t with
  |nil=>
   rw[j6]at b;obtain rfl:=hx.unique b.2.1;rw[b.2.2]at hb;cases hb
  |cons a t=>
   obtain⟨cq,d,hb2⟩:=b.1.at _ a t aa;obtain rfl:=hx.unique d;rw[hb]at hb2;obtain rfl:_=a:=by simpa using hb2
   exact⟨t,aU⟩
def wx.unique{l c xs d}(h:wx E ws keep l xs)(b:wx E ws keep c d):l=c/\xs=d:=by
 obtain⟨t,rfl⟩:=h.1.ahead b;cases t with
 |nil=>
  rw[j6]at b⊢;exact⟨aa,h.2.1.unique b.2.1⟩
 |cons a t=>
  obtain⟨cq,e,hb⟩:=b.1.at _ a t aa;obtain rfl:=h.2.1.unique e;rw[h.2.2]at hb;cases hb
def kA.arc{s xs}(h:kA E s xs){v}(hv:v∈xs):v∉s:=by obtain⟨y,a⟩:=((h.2 v).1 hv).last;exact(sV.1 a).2.2
def kA.range{s xs}(a:Valid N E)(h:kA E s xs){v}(hv:v∈xs):0<=v/\v<(N:Int):=Aj (a.cut s) ((h.2 v).1 hv)
def kQ.nodup(d:Valid N E){l}(h:kQ E ws keep l):l.Nodup/\∀v∈l,0<=v/\v<(N:Int):=by
 induction h with
 |nil=>simp
 |snoc h hx hb g=>
  have c:=(SV.1 (Qp hb)).1;refine⟨xV.2 ⟨g.1,aU,?_⟩,?_⟩
  .intro a f b hb' e;obtain rfl:b=_:=by simpa using hb'
   exact hx.arc c (e▸f)
  .intro v hv;rcases iD.1 hv with hv|hv;·grind
   .obtain rfl:v=_:=by simpa using hv
    exact hx.range d c
def kQ.length(a:Valid N E){l}(h:kQ E ws keep l):l.length<=N:=EJ (h.nodup a).1 (h.nodup a).2
def akO(a:Valid N E)k:∀{out},kQ E ws keep out->N -out.length<=k->∃o xs,wx E ws keep o xs:=by
 induction k with
 |zero=>
  intro out h hk;obtain⟨xs,hx⟩:=GS a out;cases hb:jA (nV ws) (kept xs keep)with
  |none=>exact⟨_,xs,h,hx,hb⟩
  |some v=>
   have:=(kQ.snoc h hx hb).length a;simp at this;omega
 |succ k b=>
  intro out h hk;obtain⟨xs,hx⟩:=GS a out;cases hb:jA (nV ws) (kept xs keep)with
  |none=>exact⟨_,xs,h,hx,hb⟩
  |some v=>
   have:=(kQ.snoc h hx hb).length a;simp at this;exact b (kQ.snoc h hx hb) aG
def akN(a:Valid N E)(ws keep):∃o xs,wx E ws keep o xs:=akO a N .nil aU
def Path.au1{s u x}(p:Path (cut E s) u x):Path E u x:=p.mono (λ_ a=>(mZ.1 a).1)
def kQ.alB{l a}(h:kQ E ws keep l)(b:kA E [] a):∀v∈l,v∈a:=by
 induction h with
 |nil=>simp
 |snoc h hx hb d=>
  intro v hv;rcases iD.1 hv with hv|hv;·grind
  .obtain rfl:v=_:=by simpa using hv
   have c:=(SV.1 (Qp hb)).1;rw[b.2,GR];exact((hx.2 _).1 c).au1
end
open Go.RowKit Go.MapKept
def avv ws{k:Nat}(h:k<ws.length):nV ws k=ws[k]?.getD 0:=by grind[nV]
def afa{ws v}(h:v<0\/(ws.length:Int)<=v):nV ws v=0:=by grind[nV]
set_option maxHeartbeats 400000 in
def avt A c ws v w(a:cX w A ws)(h1:ws.length<=9223372036854775807):
 aD ax 338 #[ad A ws.length c,J R v] w λe w'=>e=aA (J R (nV ws v))/\w=w':=by
 by_cases d:v<0;·rw[afa (.inl d)];have g:decide (v<0)=true:=aG;clear a;go_enter Vb,Vy;go_wp2;go_ret;exact⟨aa,aa⟩
 .have g:decide (v<0)=false:=aG;by_cases f:(ws.length:Int)<=v;·rw[afa (.inr f)];have h:decide ((ws.length:Int)<=v)=true:=aG;clear a;go_enter Vb,Vy;go_wp2;go_ret;exact⟨aa,aa⟩
  .have h:decide ((ws.length:Int)<=v)=false:=aG;obtain⟨k,rfl⟩:∃k:Nat,v=(k:Int):=⟨v.toNat,ae⟩;have hk:k<ws.length:=ae;rw[avv ws hk];obtain⟨b,off,rfl,hcell⟩:=a ae;have hc:=hcell k hk;clear hcell;generalize ws[k]?.getD 0=x at*;go_enter Vb,Vy;go_wp2;go_ret;exact⟨aa,aa⟩
def auf (g:Nat) lb f A c L w (m:cX w A L) (h1:L.length<=9223372036854775807)
 (gq:∀args w,(kj g args).run ax w=.ok (.enter g args) w)
 (n:∀x,aD ax g (#[J R x]++lb) w λe w'=>e=aA (J R (f x))/\w=w'):
 aD ax 336 #[ad A L.length c,dK (ek g) #[] lb] w λe w'=>e=aA (bh #[J R ((jA f L).getD 0),aj (decide (0<L.length))])/\w=w':=by
 have h:=hid (And.intro m n);clear m n;go_enter func336,ntmps336;go_wp2_with fail;go_loopw [6,11] (λq i wr=>∃k:Nat,k<=L.length/\i=J R k/\q=J R ((jA f (L.take k)).getD 0)/\wr=w) (λ_ i _=>L.length -(cg i).toNat);case atStart=>exact⟨0,cQ _,aa,aa,aa⟩
 case round=>
  obtain⟨k,hk,rfl,rfl,rfl⟩:=hrel;by_cases hlt:k<L.length
  .have hb0:(k:Int)<(L.length:Int):=ae;obtain⟨b,off,rfl,hcell⟩:=h.out.1 ae;have hc:=hcell k hlt;obtain⟨x,hx⟩:∃x,L[k]?=ab x:=⟨_,cm hlt⟩;simp only[hx,Option.getD_some]at hc;have d:aE (jA f (L.take (k+1))=Bo f (jA f (L.take k)) x):=hid (by grind[fv,Qr]);clear hcell hx;by_cases l:k=0
   .have s:((k:Int)==0)=true:=aG;have a:aE (jA f (L.take (k+1))=ab x):=hid (by rw[d.out,l];rfl);clear l;go_wp2;go_roundw;case rel=>exact⟨k+1,ae,by go_num,by rw[a.out];rfl,aU⟩
    case measure=>grind[cg]
   .have hne:((k:Int)==0)=false:=beq_eq_false_iff_ne.2 ae
    obtain⟨y,p⟩:∃y,jA f (L.take k)=ab y:=by
     cases hb:jA f (L.take k)with
     |none=>grind[Qq,List.take_eq_nil_iff]
     |some y=>simp
    rw[p]at d⊢;clear p;have c1:=h.out.2 x;have j:=hid (h.out.2 y);by_cases o:f x<f y
    .have r:decide (f x<f y)=true:=aG;have a:aE (jA f (L.take (k+1))=ab x):=hid (by rw[d.out];unfold Bo;simp[o]);go_wp2_with (go_at_fn g;with_reducible refine c1.mono ?_;clear c1;rintro e w' ⟨rfl,rfl⟩;have c2:=j.out);go_wp2_with (go_at_fn g;with_reducible refine c2.mono ?_;clear c2;rintro e w' ⟨rfl,rfl⟩);go_roundw;case rel=>exact⟨k+1,ae,by go_num,by rw[a.out];rfl,aU⟩
     case measure=>grind[cg]
    .have r:decide (f x<f y)=false:=aG;have a:aE (jA f (L.take (k+1))=ab y):=hid (by rw[d.out];unfold Bo;simp[o]);go_wp2_with (go_at_fn g;with_reducible refine c1.mono ?_;clear c1;rintro e w' ⟨rfl,rfl⟩;have c2:=j.out);go_wp2_with (go_at_fn g;with_reducible refine c2.mono ?_;clear c2;rintro e w' ⟨rfl,rfl⟩);go_roundw;case rel=>exact⟨k+1,ae,by go_num,by rw[a.out];rfl,aU⟩
     case measure=>grind[cg]
  .obtain rfl:k=L.length:=ae;rw[List.take_length];go_wp2;go_ret2;exact⟨aa,aa⟩
def apz f c w:aD ax 363 #[ad af 0 c,f] w λe w'=>e=aA (J R (-1))/\w=w':=by
 go_enter func363,ntmps363;go_wp2_with fail;go_loopw [8] (λi wr=>i=J R 0/\wr=w) (λ_ _=>0);case atStart=>simp
 case round=>
  obtain⟨rfl,rfl⟩:=hrel;go_wp2;go_ret;exact⟨aa,aa⟩
def alW f c w:aD ax 334 #[ad af 0 c,f] w λe w'=>e=aA (ad af 0 c)/\w=w':=by go_enter func334,ntmps334;go_wp2_with (go_at_call 363;refine(apz f c w).mono ?_;rintro e w1 ⟨rfl,rfl⟩);go_ret;exact⟨aa,aa⟩
def _root_.Go.Proofs.YtcmhplknoglbkaaGreat.aq.putRow F w(blk off)d(hb:F blk):aq F w (Sort.putRow (J R) w blk off d):=
 ⟨aa,aa,aa,by grind[Sort.size_putRow],λk _ a=>by show(w.heap.modify blk _)[k]?=_;rw[Array.getElem?_modify,if_neg (λe:blk=k=>a (e▸hb))]⟩
def _root_.Go.Proofs.YtcmhplknoglbkaaGreat.aq.grow F w os:aq F w (Sort.grow w os):=
 ⟨aa,aa,aa,by show w.heap.size<=(w.heap++os).size;rw[Array.size_append];omega,λk hk _=>by show(w.heap++os)[k]?=_;rw[Array.getElem?_append_left hk]⟩
def _root_.Go.Proofs.YtcmhplknoglbkaaGreat.aq.ahead F w q:aq F w (Jz w q):=⟨aa,aa,aa,cp _,λ_ _ _=>aa⟩
def alV (g:Nat) lb (l:∀args w,(kj g args).run ax w=.ok (.enter g args) w) (p:Int->Bool) base v (xs:List Int) w (hv:w.ownsRow base 3 1 v xs.length (xs.map (J R)))
 (hlen:xs.length<=9223372036854775807)
 (hc:∀W x,aq (λi=>v.ownBlock=ab i) w W->aD ax g (#[J R x]++lb) W λe w'=>e=aA (aj (p x))/\∃q,w'=W.drewN q):
 aD ax 334 #[v,dK (ek g) #[] lb] w λe w'=>∃A c,e=aA (ad A (xs.filter (λx=>!p x)).length c)/\cX w' A (xs.filter (λx=>!p x))/\(∀k off,A=ab ⟨k,off,af⟩->v.ownBlock=ab k)/\aq (λi=>v.ownBlock=ab i) w w':=by
 rcases hv.2 with⟨rfl,hz⟩|⟨a,cap,cur,rfl,hb,u,h1,o,r,s⟩;·obtain rfl:xs=[]:=List.eq_nil_of_length_eq_zero hz;refine(alW _ 0 w).mono ?_;grind[cX.nil,aq.refl]
 .have t:∀j,j<xs.length->w.cell? ⟨a,0+j,af⟩=ab (J R (xs[j]?.getD 0)):=λj b=>by obtain⟨m,C,e,hcc⟩:=cX.lW hv ae;cases e;exact hcc j b
  have f:Sort.Holds (J R) w a 0 xs.toArray:=λj b=>by grind[World.frozen?]
  have y:∀{W},aq (λi=>tr (ad (ab ⟨a,0,af⟩) xs.length cap)=ab i) w W->True:=λ_=>trivial;have d:(λi=>tr (ad (ab ⟨a,0,af⟩) xs.length cap)=ab i) a:=rfl
  have h:=awY Tryz.aqf (J R) (λ_=>aa) p g lb l 0 Tryz.zeroValue3 a 0 cap xs.toArray w
   (λW x hbl=>by have:=hc W x ⟨hbl.os,hbl.tape,hbl.output,hbl.size,λk hk _=>hbl.block k hk⟩;exact this)
   (λn os gC x B=>by have:=hc (Go.Proofs.sortWorld (J R) w a 0 n gC os) x (((aq.ahead _ w n).trans (aq.putRow _ _ a 0 gC d) (λ_ _ h=>h)).trans (aq.grow _ _ os) (λ_ _ h=>h));exact this)
   f ae ae;simp only[List.size_toArray]at h;change aD ax 334 _ _ _ at h;refine h.mono ?_;clear h;rintro e w' ⟨rfl,q,rfl⟩;have hle:=xU (λx=>!p x) xs;refine⟨_,_,rfl,λz=>⟨a,0,rfl,λj b=>?_⟩,(λk off e=>aG),(aq.ahead _ w q).trans (aq.putRow _ _ a 0 _ d) (λ_ _ h=>h)⟩;have:=(Sort.holds_putRow (J R) (Jz w q) a 0 xs.toArray ((xs.filter (λx=>!p x))++List.replicate (xs.length -(xs.filter (λx=>!p x)).length) 0).toArray (Sort.holds_ahead (J R) w q a 0 xs.toArray f) aG j aG).1;rw[this,getElem!_pos _ j aG];simp[b]
open Go.RowKit Go.MapKept
section
variable {P:Program} (w:World)
def avD {o a K Q} (s x) t
 (ho:o.op=.call {callee:=nY .append,args:=#[s,x],argTypes:=#[t,t]})
 base e i z (size bytes) (ht:P.underlying t=ab (.slice e)) (hi:P.info? e=ab i) (hz:i.zero=ab z)
 (hsize:i.size=size) (hby:i.bytes=bytes) (hzs:z.cells.size=size) (hsz:0<size)
 v n xs (hs:a.eval s=v) (hown:w.ownsRow base e size v n xs)
 A (m c) news (hx:a.eval x=ad A m c) (hr:Cells w size A m news) (h1:∀u∈news,u.oneCell'=aB) (hm:0<m)
 (h63:n+m<=maxLen) (hbytes:(n+m)*bytes<=140737488355328) (hbase:base<=w.heap.size)
 (h:∀b d w',w'.ownsRow base e size (ad (ab ⟨b,0,af⟩) (n+m) d) (n+m) (xs++news)->w.grownBy w' v.ownBlock->(v.ownBlock=ab b\/b=w.heap.size)->b<w'.heap.size->K (a.put o.dst (ad (ab ⟨b,0,af⟩) (n+m) d)) w'):
 hC P o a w K Q:=by
 obtain⟨v',w',hrun,f,j,k,g⟩:=TI (P:=P) w base t o.type e i z size bytes ht hi hz hsize hby hzs hsz v n xs hown A m c news hr h1 h63 hbytes hbase
 have hv:∃b d,v'=ad (ab ⟨b,0,af⟩) (n+m) d:=by
  rcases f.2 with⟨hv,_⟩|⟨b,d,cur,hv,_⟩;·omega
  .grind
 obtain⟨b,d,rfl⟩:=hv;unfold hC bw;simp only[ho,mU,invoke,pq,gl,jR,ji,ob,jx,kC,hs,hx,hrun];refine h b _ w' f j ?_ (f.lt b aa).2;rcases g with g|g;·grind[tr]
 .grind[tr]
end
def alx(E:List (Int×Int))l{k u x}(h:E[k]?=ab (u,x)):cut (E.take (k+1)) l=cut (E.take k) l++(if u∉l/\x∉l then[(u,x)]else[]):=by grind[fv,cut]
def QR E l:(cut E l).length<=E.length:=xU _ _
end G
end Go.Proofs.YtcmhplknoglbkaaGreat
