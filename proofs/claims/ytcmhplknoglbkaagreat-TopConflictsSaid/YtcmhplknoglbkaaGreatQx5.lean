/- Part 5 of the proof of TopConflictsSaid. -/
import Derived.Shelf.Bytes.SlSmallAll
import Derived.Test.YtcmhplknoglbkaaGreatQx0
import Derived.Test.YtcmhplknoglbkaaGreatQx3
import Derived.Test.YtcmhplknoglbkaaGreatQx4
set_option linter.all false
set_option maxRecDepth 100000
set_option maxHeartbeats 4000000
open Go.Proofs.Tryz
open Array renaming replicate_succ->pC,replicate_zero->pD
open Bool renaming false->ao,true->az
open Go renaming Addr->bQ,Calls->aD,Program->ee,Value->aO,World->aM,bodyPost_ret->dp,callFunc->km,execOp->bt,resolve->nD,results->oe,results_cell_row->jd,run_copy_row->Ke,undef->a1,wpList_nil->an
open Go.Ending renaming returned->aB
open Go.Fn renaming func->ed
open Go.IntKind renaming bits->DK,i64->R,signed->JT,u64->aH,u8->d',wrap->DL
open Go.Lib renaming bytesOf->Gu
open Go.Next renaming value->c9
open Go.Operand renaming tmp->bj
open Go.Proofs.Tryz renaming func199->Vw,ntmps199->VZ,prog->aw,underlying137->Pj,underlying22->dL,underlying235->x3,underlying5->l2
open Go.Proofs renaming enters_of->kW
open Go.Result renaming andThen_ok->jc,ok->a6
open Go.RowKit renaming Hid->aE,intOf->cy
open Go.Sem renaming run_bind->ga,run_pure->jK
open Go.TypeDesc renaming slice->iF
open Go.Value renaming agg->av,bool->ai,func->dC,int->J,pointer->ax,slice->ae,tuple->bm
open List renaming append_assoc->j0,append_toArray->pM,cons_append->oZ,eq_nil_of_length_eq_zero->j2,filter_append->tN,filter_eq_self->zT,findIdx?_eq_some_iff_getElem->QN,foldl_append->XT,foldl_cons->tO,getElem?_append_left->wM,getElem?_append_right->o0,getElem?_drop->vj,getElem?_eq_getElem->cC,getElem?_eq_some_iff->e5,getElem?_toArray->zV,length->vk,length_append->c',length_cons->js,length_drop->tP,length_map->gV,length_nil->l4,length_range->BO,length_replicate->pN,length_singleton->rI,length_take->nJ,map_cons->jM,map_nil->kp,map_toArray->oo,mem_append->j3,mem_cons->gF,mem_iff_getElem?->qM,mem_of_getElem?->cY,nil_append->lK,not_mem_nil->fQ,push_toArray->pP,replicate->eU,size_toArray->iG,take_add_one->gg,take_length->kH
open Nat renaming div_add_mod->QV,div_le_self->yt,eq_zero_or_pos->lL,le_mul_of_pos_left->Hj,le_refl->b4,le_trans->ea,lt_or_ge->X3,mod_lt->KK,mul_le_mul_right->o2,sub_le->Hk,succ_le_succ->zY,zero_add->jt,zero_le->cF
open Option renaming none->af,some->ab
open Or renaming inl->bM,inr->b8
namespace Go.Proofs.YtcmhplknoglbkaaGreat
section
open Go.RowKit Go.MapKept
section
variable {P:ee} {o:Oper} {a:Act} {w:aM}
def Tx{ty t B:Nat}{v}(hb:aU w B #[v] t)(b:(P.underlying ty).map (λd=>d.isRow)=ab ao):(loadVar ty ⟨B,0,af⟩).run P w=a6 v w:=by
 have hc:=hb.cell 0 aa;cases hq:P.underlying ty with
 |none=>grind
 |some d=>
  have a:d.isRow=false:=aF
  have hagg:(isAgg ty).run P w=a6 ao w:=by unfold isAgg;rw[ga,run_underlying hq w];cases d<;>simp_all
  simp[loadVar,hagg,hc]
def FW{a}{p ty t B:Nat}{v tmps}(h:a.results=#[.cell p ty])(b:tmps.getD p a1=ax (ab ⟨B,0,af⟩))(hb:aU w B #[v] t)(c:(P.underlying ty).map (λd=>d.isRow)=ab ao):(oe a tmps).run P w=a6 v w:=by rw[xL h,b];simp[asAddr,Tx (P:=P) hb c]
def aeC {a} {p ty t B c e t2 jA:Nat} {v v2 tmps} (h:a.results=#[.cell p ty,.cell c e]) (b:tmps.getD p a1=ax (ab ⟨B,0,af⟩)) (hb:aU w B #[v] t) (g:(P.underlying ty).map (λd=>d.isRow)=ab ao)
 (mf:tmps.getD c a1=ax (ab ⟨jA,0,af⟩)) (hb2:aU w jA #[v2] t2) (S5:(P.underlying e).map (λd=>d.isRow)=ab ao):(oe a tmps).run P w=a6 (bm #[v,v2]) w:=by
 have h1:=Tx (P:=P) hb g;have f:=Tx (P:=P) hb2 S5;simp only[oe,h];simp only[Array.getD_eq_getD_getElem?]at b mf;simp[b,mf,asAddr,h1,f]
def auK {d g} {b f c B off n cap m c2 t:Nat} {aJ old new cs} (ho:o.op=.call {callee:=.builtin .copy,args:=#[d,g],argTypes:=#[b,f]}) (k:a.eval d=ae (ab ⟨B,off,af⟩) n cap) (p:a.eval g=ae aJ m c2) (e:aU w B old t) (hr:Cells w 1 aJ m cs) (s:n<=m) (q:0<n)
 (lR:off+n<=old.size) (h1:∀v∈cs,v.oneCell'=az) (kP:(old.toList.take off++cs.take n++old.toList.drop (off+n)).toArray=new) (hu:P.underlying b=ab (iF c)) (hs:(P.info? c).map (·.size)=ab 1):
 ∃w',(bt a.eval o).run P w=a6 (c9 (J R (n:Int))) w'/\Turned w w' (aj B old t) (aj B new t):=by
 obtain⟨h,rfl,l⟩:=hr.2 ad;have hcs:=by simpa using hr.1
 have i:(cs.take n).length=n:=aF;have hr:=Ke (P:=P) w b f o.type _ B off n cap h m c2 _ t (cs.take n) hu hs e aF (λj v r=>l j v aF) ad (λv hv=>h1 v (List.mem_of_mem_take hv));refine⟨w.setRow B (old.toList.take off++cs.take n++old.toList.drop (off+n)).toArray,?_,vt (au.setRow w B _) ?_⟩;·unfold bt;simp only[ho,nD,invoke,builtin,ga,jK,jc,oo,jM,kp,k,p,hr,i];rfl
 .rw[<-kP];exact e.setRow _
end
def avi {P o} {a:Act} {w} (t e:Nat) (x lo) (ho:o.op=.slice t x (ab lo) af af) (d:P.underlying t=ab (iF e)) (b:(P.info? e).map (·.size)=ab 1) (B n c i m:Nat)
 (hx:a.eval x=ae (ab ⟨B,0,af⟩) n c) (kO:a.eval lo=J R (i:Int)) (hm:i+m=n) (h2:n<=c) (hi:i<c):(bt a.eval o).run P w=a6 (c9 (ae (ab ⟨B,i,af⟩) m (c -i))) w:=by
 have h:=A3 (w:=w) t e 1 x lo ho d b _ n c i m hx kO hm h2;rw[afY hi]at h;exact h
def akv{bs b:List Int}{off n}(h:n<=b.length):((aZ bb bs []).toList.take off++(b.map bb).take n++(aZ bb bs []).toList.drop (off+n)).toArray=aZ bb (gv bs off (b.take n)) []:=by have e:(b.take n).length=n:=aF;simp[aZ,gv,e]
def rdStep(d:dn)(o:Nat)(out:List Int)(x:Nat×Nat×Nat):List Int:=gv out (x.2.1 -o) (((jo d x.1).drop (x.2.1 -x.1*d.size)).take x.2.2)
def nY(d:dn)(o n:Nat):List Int:=(mm d.size o n).foldl (rdStep d o) (eU n 0)
def Ej(d:dn)(o n:Nat)(x:Nat×Nat×Nat):Prop:=x.1*d.size<=x.2.1/\o<=x.2.1/\0<x.2.2/\x.2.1+x.2.2<=o+n/\x.2.1+x.2.2<=x.1*d.size+d.size/\x.1<d.cnt
def FR{d}(b:dv d){o n}(hn:o+n<=d.bytes.length){x}(hx:x∈mm d.size o n):Ej d o n x:=by
 obtain⟨h1,c,e⟩:=atC b.kz hx;have a:=aef (i:=_) b.kz c e;rw[<-h1]at a;refine⟨a.1,a.2.1,a.2.2.1,a.2.2.2.1,a.2.2.2.2,?_⟩;have f:x.1*d.size<d.cnt*d.size:=by rw[<-b.len];omega
 exact Nat.lt_of_mul_lt_mul_right f
def aeq{d}(g:dv d){o n out x}(hx:Ej d o n x)(ho:out.length=n):(rdStep d o out x).length=n:=by obtain⟨h1,a,b,c,e,f⟩:=hx;grind[rdStep,xF]
def T'{d}(a:dv d){o n}:∀(l:List (Nat×Nat×Nat)) out,(∀x∈l,Ej d o n x)->out.length=n->(l.foldl (rdStep d o) out).length=n
 |[],_,_,h=>h
 |x::l,out,hx,h=>by rw[tO];exact T' a l _ (λy b=>hx y (List.mem_cons_of_mem _ b)) (aeq a (hx x (List.mem_cons_self ..)) h)
theorem xI{d}(a:dv d){o n}(hn:o+n<=d.bytes.length):(nY d o n).length=n:=T' a _ _ (λ_ hx=>FR a hn hx) pN
def ak.alq{aq w:aM}{FX:Nat->Prop}{l:List bp}{B:Nat}{bs:List Int}(h:ak aq FX w l)(i:Nat)(hi:l[i]?=ab (aj B (aZ bb bs []) 5):=by rfl):ak aq FX w (l.set i (cg (ab ⟨B,0,af⟩) bs.length bs)):=
 h.as i hi _ (λhb=>⟨K9 hb,λb off a e=>by
  injection e with e;injection e with bB bY;subst bB;exact⟨cF _,_,hb⟩,b4 _⟩) (λb ⟨off,a,e⟩=>by
  injection e with e;injection e with bB bY;exact bB.symm)
def ZU B m d(o n)w(hs:Has w (aL B m d))(f:dv d)(cS:d.down=ao)(hn:o+n<=d.bytes.length):
 aD aw 130 #[c0 B,gI ((o:Int),(n:Int))] w λe w'=>∃A c,e=aB (bm #[ae A n c,J R 0])/\cf w w' (cg A c (nY d o n)):=by
 have hbl:d.bytes.length<=1048576:=by rw[f.len];exact f.small
 have hs1:=f.kz;have hs2:d.size<=d.bytes.length:=by rw[f.len];exact Hj _ f.sS
 have H3:∀i:Nat,i<d.cnt->jw d i=0:=λi hi=>by grind[jw]
 have vb:aE (∀i W,i<d.cnt->Has W _->aD aw 209 _ W λe w'=>∃N T,e=aB (bm #[ae N d.size T,J R 0])/\cf W w' (cg N T (jo d i))):=hid (λi W hi h=>(Zo B m d i W h f).mono (λe w' hh=>aF));have G:aE (∀x∈mm _ o n,Ej d o n x):=hid (λx hx=>FR f hn hx);obtain⟨xs,L⟩:=ex (mm d.size o n);have XJ:=hid L;have hG:∀b1 p,wT aw 280 #[ax (ab ⟨b1,0,af⟩),ax (ab ⟨p,0,af⟩)] (λx:Nat×Nat×Nat=>#[J R (x.1:Int),gI ((x.2.1:Int),(x.2.2:Int))]) w (λ_=>False) (both (aj b1 #[J R (d.size:Int)] 3) (aj p #[J R (o:Int),J R (n:Int)] 35)) (λ_=>True) xs:=λb1 p=>by grind[adW]
 have P:aE (nY d o n=xs.foldl (rdStep d o) (eU n 0)):=hid (by grind[nY]);rw[L]at G;have jL:aE (∀W,Has W _->aD _ _ #[c0 B,av #[J _ (o:Int),J _ (n:Int)]] W λe w'=>e=aB _/\ar W w'):=hid (λW h=>ZK B m d o n W h.dev f hn);clear H3 L;refine Ag func130 aa ?_;simp only[ntmps130,iG,js,l4,pC,pD,pP,pM,lK,oZ];have a:=bc w;have z:=hid hs;go_step;refine ah ?_;refine bG a (ax _) (λr w1 a=>?_);refine bG a (av #[J _ (o:Int),J _ (n:Int)]) (λs aW a=>?_);refine bA a #[ae _ 0 0] (λdV bI a=>?_);refine bA a #[J _ 0] (λeg cc a=>?_);refine an ?_;go_step;refine ah ?_;refine pl a 3 0 ?_;refine bh a 2 #[J R (o:Int),J R (n:Int)] ?_;refine aP (jL _ (z.out.aG a.only)) ?_;rintro e cJ ⟨rfl,g⟩;replace a:=a.aG g;refine aQ ?_;refine ag ?_;refine an ?_;go_step;refine ah ?_;refine ag ?_;refine pk (ai ao) ?_;refine an ?_;go_step;refine ah ?_;refine ag ?_;refine pl a 2 1 ?_;refine I3 a (adI n aa aa aa dL aY ad) (λj c5 a=>?_);refine bA a #[ae _ 0 0] (λv dK a=>?_);refine a' a 0 (ae _ n n) (λdz a=>?_);refine an ?_;go_step;refine cx ?_;refine bN a [1,3] (λi u=>match i with|1=>J R (d.size:Int)|3=>dC (ed 280) #[] #[ax (ab ⟨u.b,0,af⟩),ax (ab ⟨u.eV,0,af⟩)]|_=>a1) (λk=>λ|3=>both (aj (k 3).b #[J R (d.size:Int)] 3) (aj (k 3).eV #[J R (o:Int),J R (n:Int)] 35)|_=>emp) (λ_=>[]) (λ|0=>[5]|2=>[4]|_=>[]) (λ|3=>[3]|_=>[]) [0,1,2,3,4,5,7,9] (λk=>?_);refine dl 0 0 ?_;refine du (λwl Fr a=>(w4 B m d _ (z.out.aG a.only).dev f).mono ?_) ?_;·rintro e dA ⟨rfl,g⟩;exact⟨{},aa,(a.aG g).dN⟩
 refine eI 0 #[J R (o:Int),J R (n:Int)] ?_;refine du (λwl Fr a=>(adX _ o n _).mono ?_) ?_;·rintro e dA ⟨b1,p,rfl,I⟩;exact⟨{b:=b1,eV:=p},aa,a.new _ I⟩
 refine bU λeY a=>?_;generalize (k 3).b=axB at a⊢;generalize (k 3).eV=axC at a⊢;replace a:=a.drop 6;go_wp2_with fail;have S:ak _ _ _ [both _ _,bK [aj r #[ax _] 32,aj s #[J R _,J R (n:Int)] 35,aj v _ 22,aj j _ 5],bK [aj eg _ 47,aj dV _ 22]]:=ak.B2 (a.pick [6,5,4,0,1,2,3]);refine Gd (encs:=(λx:Nat×Nat×Nat=>#[J R (x.1:Int),gI _])) aa (kW Tryz.func280 aY aa) (λ_=>aa) (hG _ _) (λpre t=>t=bK [aj r _ 32,aj s _ 35,aj v _ 22,aj j (aZ bb (pre.foldl (rdStep d o) _) []) 5]) (λ_ _ _=>False) aa S ?_ ?_ ?_;all_goals clear S a
 .rintro l rd pre x W t F K oG rfl a;replace a:=a.kg;repeat((fail_if_success (with_reducible refine at_region ?_));gi_step)
  refine jG ?_;refine ag ?_;refine an ?_;repeat((fail_if_success (with_reducible refine at_region ?_));gi_step)
  refine jG ?_;refine bA a #[J _ 0,J _ 0] (λjT gQ a=>?_);refine a' a 0 (av _) (λib a=>?_);refine an ?_;first|refine wpIn_skip ?_|skip
  simp only[Exit.then];refine Ab a 5 oG (λjS a=>?_);replace a:ak _ _ _ [aj jT _ 35,aj r _ 32,aj s _ 35,aj v _ 22,aj j _ 5,obj l _,F]:=a;have lA:=aec K;obtain⟨uI,ml,tc,vV,FJ,AV⟩:=G x lA;obtain⟨M,C⟩:=ex (pre.foldl (rdStep d o) (eU n 0));have Y:M.length=n:=by rw[<-C];exact T' f _ _ (λy hy=>G y (K.subset (List.mem_append_left _ hy))) pN
  have Q:aE ((pre++[x]).foldl _ _=gv M _ _):=hid (by rw[XT,C];rfl);have Qf:=hid Y;rw[C]at a;clear C Y lA;obtain⟨q,V⟩:=ex (x.1*d.size);have X:(x.1:Int)*(d.size:Int)=(q:Int):=ad;rw[V]at uI FJ Q;have Qb:=hid X;have Z:=C9 f AV;have H:=hid Z;clear V X Z K;repeat((fail_if_success (with_reducible refine at_region ?_));gi_step)
  refine jG ?_;refine pl a 1 0 ?_;refine ag ?_;refine aP (vb _ _ AV (z.out.aG a.only)) ?_;rintro e kh ⟨fU,U,rfl,I⟩;replace a:=a.new _ I;refine aQ ?_;refine v5 ?_;refine an ?_;repeat((fail_if_success (with_reducible refine at_region ?_));gi_step)
  refine jG ?_;refine ag ?_;refine pk (ai ao) ?_;refine an ?_;repeat((fail_if_success (with_reducible refine at_region ?_));gi_step)
  refine UI a [15,19] (λi _=>match i with|15=>J R (d.size:Int)|19=>J R (x.2.2:Int)|_=>a1) (λ_=>λ|19=>aj j (aZ bb (gv M (x.2.1 -o) (((jo d x.1).drop (x.2.1 -q)).take x.2.2)) []) 5|_=>emp) (λ|19=>[5]|_=>[]) (λ|0=>[4]|2=>[1]|4=>[3]|8=>[1]|12=>[1]|14=>[2]|18=>[0]|19=>[0]|_=>[]) (λ_=>[]) [0,1,2,3,4,6,7,23,27] (λk=>?_);refine dl 0 0 ?_;refine aK ?_;refine dl 0 0 ?_;refine aK ?_;refine dl 0 0 ?_;refine aN _ (λ_ _ _=>qQ 3 _ _ 3 aa _ _ ((x.2.1 -o:Nat):Int) aa aa ad ad ad) ?_;refine aN _ (λ_ _ _=>avi 22 5 _ (bj 41) aa dL aY j n n _ (n -(x.2.1 -o)) aa aa ad ad ad) ?_;refine aK ?_;refine dl 0 1 ?_;refine aN _ (λ_ _ _=>qt 22 5 1 _ _ aa dL aY _ _ _ x.2.2 aa aa ad) ?_;refine bF ?_;refine dl 0 0 ?_;refine aK ?_;refine dl 0 0 ?_;refine du (λwl Fr a=>(w4 B m d _ (z.out.aG a.only).dev f).mono ?_) ?_;·rintro e dA ⟨rfl,g⟩;exact⟨{},aa,(a.aG g).dN⟩
  refine aN _ (λ_ _ _=>nM 3 _ _ 3 aa _ _ _ aa aa Qb ad ad) ?_;refine aN _ (λ_ _ _=>qQ 3 _ _ 3 aa _ _ ((x.2.1 -q:Nat):Int) aa aa ad ad ad) ?_;refine aN _ (λ_ _ a=>A3 22 5 1 (bj 46) _ aa dL aY fU d.size U _ (d.size -(x.2.1 -q)) aa aa ad (by have:=(a.kK 0).2.2;rw[H]at this;exact this)) ?_;refine HA (J R (x.2.2:Int)) (λ_ _ a=>auK aa aa aa (a.aX 0) (by have h:=((a.kK 1).1.Gc (c:=U) (i:=x.2.1 -q) (a.kK 1).2.2).cells;rw[tP,H]at h;exact h) ad tc (by rw[kr,Qf];omega) (xE _) (show _=aZ bb _ []from akv (by rw[tP,H];omega)) dL aY) ?_;refine bU λlf a=>?_;replace a:=a.drop 7;repeat gi_step
  have E:=a.pk [2,3,4,7,5,6];replace E:ak _ _ _ [bK [aj r _ 32,aj s _ 35,aj v _ 22,aj j _ 5],obj l _,F]:=E.fv 4;refine⟨_,?_,E⟩;exact(by show _=_;rw[Q])
 .rintro D t u W rfl hu a;replace a:=a.kg;replace a:=(a.pk [6,0,1,2,3,4,5]).kg;go_step;refine ah ?_;refine pl a 4 0 ?_;refine a' a 1 (ae _ n n) (λmr a=>?_);refine a' a 0 (J _ 0) (λn1 a=>?_);refine an ?_;have hlen:(xs.foldl (rdStep d o) (eU n 0)).length=n:=by rw[<-P];exact xI f hn
  go_wp2_with fail;refine xw a 7 (λw' a=>⟨aeC aa aa (a.aX 1) ay aa (a.aX 0) ay,?_⟩);have O:=ak.alq a 5;rw[hlen,<-P]at O;exact⟨_,n,aa,O.fresh 5⟩
 .simp
end
section
open Go.RowKit Go.MapKept
section
variable {P:ee} {o:Oper} {a:Act} {w:aM}
def auM {d x} {f v l c q g cap m c2:Nat} {A aJ bs news} (ho:o.op=.call {callee:=.builtin .copy,args:=#[d,x],argTypes:=#[f,v]}) (p:a.eval d=ae (fF A c q 1) g cap) (F:a.eval x=ae aJ m c2) (j:e6 0 w A c bs) (hr:Cells w 1 aJ m (news.map bb)) (L:m<=g) (z:0<m) (K:q+m<=bs.length)
 (hu:P.underlying f=ab (iF l)) (hs:(P.info? l).map (·.size)=ab 1):
 ∃w',(bt a.eval o).run P w=a6 (c9 (J R (m:Int))) w'/\Turned w w' (cg A c bs) (cg A c (gv bs q news)):=by
 obtain⟨y,rfl,E⟩:=hr.2 z;have hcs:=by simpa using hr.1
 obtain⟨b,off,rfl,hc⟩:=j.1 ad;obtain⟨_,cur,hb⟩:=j.2.1 b off af aa;have hlc:=j.2.2;have G:fF (ab (⟨b,off,af⟩:bQ)) c q 1=ab ⟨b,off+q,af⟩:=by grind[fF,nL]
 rw[G]at p;have r:∀k,k<bs.length->cur[off+k]?=ab (bb (bs[k]?.getD 0)):=λk hk=>by grind[World.cell?]
 have hsz:off+bs.length<=cur.size:=by have h1:=r (bs.length -1) ad;obtain⟨n,_⟩:=Array.getElem?_eq_some_iff.1 h1;omega
 have hr:=Ke (P:=P) w f v o.type _ b (off+q) g cap y m c2 _ 5 _ hu hs hb aF E aF (xE _);have B:(news.map bb).length=m:=aF;have C:=hb.setRow (cur.toList.take (off+q)++news.map bb++cur.toList.drop (off+q+m)).toArray;have D:(gv bs q news).length=bs.length:=xF ad;refine⟨w.setRow b (cur.toList.take (off+q)++news.map bb++cur.toList.drop (off+q+m)).toArray,?_,(au.setRow w b _).mono (λi _ h=>⟨off,af,by rw[h]⟩),⟨λ_=>⟨b,off,rfl,λk hk=>?_⟩,λeV H I e=>?_,ad⟩,λi hi=>⟨?_,bM hi⟩⟩;·unfold bt;simp only[ho,nD,invoke,builtin,ga,jK,jc,oo,jM,kp,p,F,hr,B];rfl
 .rw[D]at hk;refine C.cell _ ?_;have s:=r k hk;rw[<-Array.getElem?_toList]at s;rw[zV];have t:(cur.toList.take (off+q)).length=off+q:=aF;have u:(bs.take q).length=q:=aF;unfold gv;rcases X3 k q with h1|h1;·grind[wM]
  .rcases X3 k (q+m)with n|n;·rw[j0,o0 ad,t,wM ad,j0,o0 ad,u,wM ad,show off+k -(off+q)=k -q by omega,List.getElem?_map,cC ad];rfl
   .rw[o0 aF,c',t,gV,hcs,vj,show off+q+m+(off+k -(off+q+m))=off+k by omega,s,
     o0 aF,c',u,hcs,vj,show q+m+(k -(q+m))=k by omega]
 .grind
 .obtain⟨H,I,e⟩:=hi;grind
end
def lg(o:Nat)(bs:List Int)(st:Int×dn)(x:Nat×Nat×Nat):Int×dn:=
 if st.1≠0 then st else jr st.2 (x.1:Int) (gv (jo st.2 x.1) (x.2.1 -x.1*st.2.size) ((bs.drop (x.2.1 -o)).take x.2.2))
def ly(d:dn)(o:Nat)(bs:List Int):Int×dn:=(mm d.size o bs.length).foldl (lg o bs) (0,d)
def NP{o bs}:∀(l:List (Nat×Nat×Nat)) st,st.1≠0->l.foldl (lg o bs) st=st
 |[],_,_=>aa
 |x::l,st,h=>by rw[tO,show lg o bs st x=st by unfold lg;rw[if_pos h]];exact NP l st h
def awO{d}{n:Nat}{b}:(jr d (n:Int) b).2.size=d.size/\(jr d (n:Int) b).2.cnt=d.cnt:=by
 unfold jr;split;·simp
 .split;·simp
  .split;·exact⟨aa,aa⟩
   .split;·exact⟨aa,aa⟩
    .exact⟨aa,aa⟩
def awP{d}{n:Nat}{b}(h:(jr d (n:Int) b).1=0):(jr d (n:Int) b).2.down=d.down/\(jr d (n:Int) b).2.cache.length<=d.cache.length+1:=by
 unfold jr at h⊢;split at h;·omega
 .rename_i c;rw[if_neg c];split at h;·omega
  .rename_i h1;rw[if_neg h1];split at h;·rename_i a;rw[if_pos a];exact⟨aa,by show(d.cache++[(_,b)]).length<=_;simp⟩
   .rename_i a;rw[if_neg a];split at h;·rename_i e;rw[if_pos e];exact⟨aa,by show(d.cache++[(_,b)]).length<=_;simp⟩
    .omega
structure BX (d bD:dn) (k:Nat):Prop where
 ok:dv bD
 size:bD.size=d.size
 cnt:bD.cnt=d.cnt
 down:bD.down=ao
 dI:bD.cache.length<=d.cache.length+k
def BX.step{d bD k o bs x}(h:BX d bD k)(hk:d.cache.length+k<1073741824)(hx:(lg o bs (0,bD) x).1=0):BX d (lg o bs (0,bD) x).2 (k+1):=by unfold lg at hx⊢;rw[if_neg a8]at hx⊢;have h1:=h.dI;have a:=awP hx;have b:=@awO bD x.1 (gv (jo bD x.1) (x.2.1 -x.1*bD.size) ((bs.drop (x.2.1 -o)).take x.2.2));exact⟨UL h.ok _ _ ad,b.1.trans h.size,b.2.trans h.cnt,a.1.trans h.down,ea a.2 aF⟩
def Z0 B m d(o p)A c bs w(hs:Has w (aL B m d))(s:dv d)(cS:d.down=ao)(hn:o+bs.length<=d.bytes.length)(hf:d.cache.length<=1000000000)(hp:w.cell? ⟨p,0,af⟩=ab (ae A bs.length c))(vL:¬(aL B m d).cR p)(hb:bX w A bs)(Sc:∀y,eb A y->¬(aL B m d).cR y):
 aD aw 291 #[c0 B,J R (o:Int),ae (ab ⟨p,0,af⟩) 1 1] w λe w'=>e=aB (J R (ly d o bs).1)/\∃f,Turned w w' (aL B m d) (aL B f (ly d o bs).2):=by
 have hbl:d.bytes.length<=1048576:=by rw[s.len];exact s.small
 have hs1:=s.kz;have hs2:d.size<=d.bytes.length:=by rw[s.len];exact Hj _ s.sS
 have mT:aE (∀x∈mm _ o _,Ej d o _ x):=hid (λx hx=>FR s hn hx);obtain⟨xs,Z⟩:=ex (mm d.size o bs.length);have iJ:xs.length<=d.bytes.length+1:=by rw[<-Z,mm,gV,BO];unfold dY;split;exact cF _;exact zY (ea (Hk _ _) (ea (yt _ _) ad))
 have wI:=hid iJ;have hG:∀b1 G,wT aw 280 #[ax (ab ⟨b1,0,af⟩),ax (ab ⟨G,0,af⟩)] (λx:Nat×Nat×Nat=>#[J R (x.1:Int),gI ((x.2.1:Int),(x.2.2:Int))]) w (aL B m d).cR (both (aj b1 #[J R (d.size:Int)] 3) (aj G #[J R (o:Int),J R (bs.length:Int)] 35)) (λ_=>True) xs:=λb1 G=>by grind[adW]
 have XI:aE (ly d o bs=xs.foldl (lg o bs) (0,d)):=hid (by grind[ly]);rw[Z]at mT;have jL:aE (∀W,Has W _->aD _ _ #[c0 B,av #[J _ (o:Int),J _ (bs.length:Int)]] W λe w'=>e=aB _/\ar W w'):=hid (λW h=>ZK B m d o _ W h.dev s hn);clear Z iJ;have bR:=hid (λW g=>Hw p A c bs W (g.cell hp vL) (hb.only g (λb off e=>Sc b ⟨_,_,e⟩)) ad);clear hp hb vL Sc;refine Ag func291 aa ?_;simp only[ntmps291,iG,js,l4,pC,pD,pP,pM,lK,oZ];have a:=ak.start hs;go_step;refine ah ?_;refine bG a (ax _) (λH w1 a=>?_);refine bG a (J _ _) (λI aW a=>?_);refine bA a #[J _ 0] (λK bI a=>?_);refine an ?_;go_step;refine ah ?_;refine ag ?_;refine aP (bR _ a.only) ?_;rintro e cc ⟨n,k,rfl,hrow,g⟩;replace a:=a.jE g (Row.nZ hrow);refine aQ ?_;refine bA a #[ae _ 0 0] (λL cJ a=>?_);refine a' a 0 (ae n _ k) (λc5 a=>?_);refine an ?_;go_step;refine ah ?_;refine pl a 3 0 ?_;refine pl a 0 0 ?_;refine v2 ?_;refine bA a #[J _ 0,J _ 0] (λeS dK a=>?_);refine a' a 0 (av _) (λdz a=>?_);refine an ?_;go_step;refine ah ?_;refine pl a 5 0 ?_;refine bh a 0 #[J R (o:Int),J R (bs.length:Int)] ?_;refine aP (jL _ (a.has 6)) ?_;rintro e eY ⟨rfl,g⟩;replace a:=a.aG g;refine aQ ?_;refine ag ?_;refine an ?_;go_step;refine ah ?_;refine ag ?_;refine pk (ai ao) ?_;refine an ?_;go_step;refine cx ?_;refine bN a [1,3] (λi u=>match i with|1=>J R (d.size:Int)|3=>dC (ed 280) #[] #[ax (ab ⟨u.b,0,af⟩),ax (ab ⟨u.eV,0,af⟩)]|_=>a1) (λE=>λ|3=>both (aj (E 3).b #[J R (d.size:Int)] 3) (aj (E 3).eV #[J R (o:Int),J R (bs.length:Int)] 35)|_=>emp) (λ_=>[]) (λ|0=>[5]|1=>[6]|2=>[0]|_=>[]) (λ|3=>[3]|_=>[]) [0,1,2,3,4,5,6,8,10] (λE=>?_);refine dl 0 0 ?_;refine du (λwl Fr a=>(w4 B m d _ (a.has 0).dev s).mono ?_) ?_;·rintro e dA ⟨rfl,g⟩;exact⟨{},aa,(a.aG g).dN⟩
 refine eI 0 #[J R (o:Int),J R (bs.length:Int)] ?_;refine du (λwl Fr a=>(adX d.size o _ _).mono ?_) ?_;·rintro e dA ⟨b1,G,rfl,V⟩;exact⟨{b:=b1,eV:=G},aa,a.new _ V⟩
 refine bU λgQ a=>?_;generalize (E 3).b=axE at a⊢;generalize (E 3).eV=axD at a⊢;replace a:=a.drop 7;go_wp2_with fail;have e4:ak _ _ _ [both _ _,bK [aj H #[ax _] 32,aj I #[J R _] 3,aj L _ 22,aj K _ 47,cg n k bs,aL B m d],bK [aj eS _ 35]]:=ak.B2 (a.pick [7,5,4,1,3,2,6,0]);refine Gd (encs:=(λx:Nat×Nat×Nat=>#[J R (x.1:Int),gI _])) aa (kW Tryz.func280 aY aa) (λ_=>aa) (hG _ _) (λpre t=>∃f bD,pre.foldl (lg o bs) (0,d)=(0,bD)/\BX d bD pre.length/\t=bK [aj H _ 32,aj I #[J R (o:Int)] 3,aj L _ 22,aj K #[J R 0] 47,cg n k bs,aL B f bD]) (λc pre t=>match c with|.ret=>∃f bD bq,bq≠0/\pre.foldl (lg o bs) (0,d)=(bq,bD)/\t=bK [aj H #[ax (ab ⟨B,0,af⟩)] 32,aj I #[J R (o:Int)] 3,aj L #[ae n bs.length k] 22,aj K #[J R bq] 47,cg n k bs,aL B f bD]|_=>False) (⟨m,d,aa,⟨s,aa,aa,cS,b4 _⟩,aa⟩) e4 ?_ ?_ ?_;all_goals clear e4 a
 .rintro l rd pre x W t F O oG ⟨f,bD,C,r,rfl⟩ a;replace a:=a.kg;repeat((fail_if_success (with_reducible refine at_region ?_));gi_step)
  refine jG ?_;refine ag ?_;refine an ?_;repeat((fail_if_success (with_reducible refine at_region ?_));gi_step)
  refine jG ?_;refine bA a #[J _ 0,J _ 0] (λzr ib a=>?_);refine a' a 0 (av _) (λjS a=>?_);refine an ?_;first|refine wpIn_skip ?_|skip
  simp only[Exit.then];refine Ab a 7 oG (λkh a=>?_);replace a:ak _ _ _ [aj _ _ 35,aj H _ 32,aj I _ 3,aj L _ 22,aj K _ 47,cg n k bs,aL B f bD,obj l _,F]:=a;have lA:=aec O;have hpl:=O.length_le;rw[c',rI]at hpl;have AE:d.cache.length+pre.length<1073741824:=by have:=wI.out;omega
  obtain⟨uI,ml,tc,vV,FJ,AV⟩:=mT x lA;have ajM:=hid r;have azm:=r.dI;have N:=r.ok;have hdd:=r.size;have hcc:x.1<bD.cnt:=by rw[r.cnt];exact AV
  have H3:jw bD (x.1:Int)=0:=by rw[jw,if_neg (by rw[r.down];simp),if_neg ad]
  have vb:aE (∀W,Has W _->aD aw 209 _ W λe w'=>∃aA aC,e=aB (bm #[ae aA d.size aC,J R 0])/\cf W w' (cg aA aC (jo bD x.1))):=hid (λW h=>(Zo B f bD x.1 W h N).mono (λe w' hh=>aF));have qK:aE (∀W,Has W _->aD _ 51 #[c0 B] W λe w'=>e=aB _/\ar W w'):=hid (λW h=>by have q:=w4 B f bD W h.dev N;rw[hdd]at q;exact q);obtain⟨P,yZ⟩:=ex (x.1*d.size);have qb:(x.1:Int)*(d.size:Int)=(P:Int):=ad;have pf:(jo bD x.1).length=d.size:=by grind[C9]
  obtain⟨z,j8⟩:=ex (gv (jo bD x.1) (x.2.1 -P) ((bs.drop (x.2.1 -o)).take x.2.2));have hst:lg o bs (0,bD) x=jr bD (x.1:Int) z:=by grind[lg]
  have X:(pre++[x]).foldl (lg o bs) (0,d)=jr bD (x.1:Int) z:=aF;rw[yZ]at uI FJ;have aaG:((bs.drop (x.2.1 -o)).take x.2.2).length=x.2.2:=aF;have iv:z.length=d.size:=by grind[xF]
  obtain⟨bq,dr⟩:=ex ((jr bD (x.1:Int) z).1);obtain⟨M,j7⟩:=ex ((jr bD (x.1:Int) z).2);have Y:jr bD (x.1:Int) z=(bq,M):=aF;have vc:=hid (λW fJ dB h h2 h3=>by have q:=am8 B f bD x.1 fJ dB z W h N ad h2 ad h3;rw[iv,dr,j7]at q;exact q);have Qb:=hid qb;have D5:=hid pf;have zN:=hid j8;have ey:=hid (hst.trans Y);rw[Y]at X;have W5:=hid X;have ayp:=hid hdd;have ayq:=hid N;clear yZ qb pf O j8 hst Y dr j7 C X hdd H3 lA hcc aaG iv r N;repeat((fail_if_success (with_reducible refine at_region ?_));gi_step)
  refine jG ?_;refine pl a 1 0 ?_;refine ag ?_;refine aP (vb _ (a.has 6)) ?_;rintro e lf ⟨S,U,rfl,V⟩;replace a:=a.new _ V;refine aQ ?_;refine v5 ?_;refine an ?_;repeat((fail_if_success (with_reducible refine at_region ?_));gi_step)
  refine jG ?_;refine ag ?_;refine pk (ai ao) ?_;refine an ?_;repeat((fail_if_success (with_reducible refine at_region ?_));gi_step)
  refine UI a [5,18] (λi _=>match i with|5=>J R (d.size:Int)|18=>J R (x.2.2:Int)|_=>a1) (λ_=>λ|18=>cg S U (gv (jo bD x.1) (x.2.1 -P) ((bs.drop (x.2.1 -o)).take x.2.2))|_=>emp) (λ|18=>[0]|_=>[]) (λ|2=>[1]|4=>[2]|5=>[7]|8=>[0]|9=>[4]|11=>[1]|12=>[3]|14=>[6]|16=>[1]|17=>[6]|18=>[6]|_=>[]) (λ_=>[]) [1,2,3,4,5,6,7,8,9,15,28] (λE=>?_);refine bF ?_;refine dl 0 0 ?_;refine aK ?_;refine dl 0 0 ?_;refine du (λwl Fr a=>(qK _ (a.has 0)).mono ?_) ?_;·rintro e dA ⟨rfl,g⟩;exact⟨{},aa,(a.aG g).dN⟩
  refine aN _ (λ_ _ _=>nM 3 _ _ 3 aa _ _ _ aa aa Qb ad ad) ?_;refine aN _ (λ_ _ _=>qQ 3 _ _ 3 aa _ _ ((x.2.1 -P:Nat):Int) aa aa ad ad ad) ?_;refine aN _ (λ_ _ a=>A3 22 5 1 (bj 42) _ aa dL aY S d.size U _ (d.size -(x.2.1 -P)) aa aa ad (by have:=(a.kK 0).2.2;rw[D5]at this;exact this)) ?_;refine dl 0 0 ?_;refine aK ?_;refine dl 0 0 ?_;refine dl 0 0 ?_;refine aN _ (λ_ _ _=>qQ 3 _ _ 3 aa _ _ ((x.2.1 -o:Nat):Int) aa aa ad ad ad) ?_;refine aN _ (λ_ _ a=>A3 22 5 1 (bj 51) (bj 55) aa dL aY n bs.length k (x.2.1 -o) (bs.length -(x.2.1 -o)) aa aa ad (a.kK 0).2.2) ?_;refine aK ?_;refine dl 0 1 ?_;refine aN _ (λ_ _ a=>qt 22 5 1 _ _ aa dL aY _ _ _ x.2.2 aa aa (by have:=(a.kK 0).2.2;omega)) ?_;refine HA _ (λ_ _ a=>auM aa aa aa (a.kK 0) (by have h:=(((a.kK 1).1.Gc (c:=k) (i:=x.2.1 -o) (a.kK 1).2.2).Dl (q:=x.2.2) aF).cells;rw[nJ,tP,Nat.min_eq_left ad]at h;exact h) ad tc (by rw[D5];omega) dL aY) ?_;refine bU λmr a=>?_;replace a:=a.drop 9;rw[zN]at a;repeat((fail_if_success (with_reducible refine at_region ?_));gi_step)
  refine jG ?_;refine pl a 1 0 ?_;refine v2 ?_;refine aP (vc.out _ S U (a.has 6) (a.kK 9).1 (a.ne (i:=9) (j:=6) aa aa bf)) ?_;rintro e n1 ⟨rfl,Q,bL⟩;replace a:=a.ek 6 bL;refine aQ ?_;refine ag ?_;refine an ?_;by_cases hz:bq=0
  .subst hz;repeat((fail_if_success (with_reducible refine at_region ?_));gi_step)
   refine jG ?_;refine ag ?_;refine pk (ai ao) ?_;refine an ?_;repeat gi_step
   have v:=a.pk [1,2,3,4,5,6,7,8];replace v:ak _ _ _ [bK [aj _ _ 32,aj _ _ 3,aj _ _ 22,aj _ _ 47,cg n k bs,aL B Q M],obj l _,F]:=v.fv 6;refine⟨_,?_,v⟩;exact⟨Q,M,W5,by rw[c',rI];have h:=ajM.out.step (o:=o) (bs:=bs) (x:=x) AE (by rw[ey]);rw[ey]at h;exact h,aa⟩
  .have Ms:=hz;repeat((fail_if_success (with_reducible refine at_region ?_));gi_step)
   refine jG ?_;refine ag ?_;refine aI (ai az) (by(go_simp;try simp[Ms])) ?_;refine an ?_;repeat((fail_if_success (with_reducible refine at_region ?_));gi_step)
   refine jG ?_;refine ag ?_;refine a' a 4 (J _ bq) (λre a=>?_);refine an ?_;repeat gi_step
   have v:=a.pk [1,2,3,4,5,6,7,8];replace v:ak _ _ _ [bK [aj H _ 32,aj I #[J R (o:Int)] 3,aj L _ 22,aj K #[J R bq] 47,cg n k bs,aL B Q M],obj l _,F]:=v.fv 6;refine⟨_,?_,v⟩;exact⟨Q,M,bq,hz,W5,aa⟩
 .rintro D t u W ⟨f,bD,C,r,rfl⟩ hu a;replace a:=a.kg;replace a:=(a.pk [8,0,1,2,3,4,5,6,7]).kg;have T:=hid (XI.out.trans C);clear C r;go_step;refine ah ?_;refine a' a 4 (J _ 0) (λrf a=>?_);refine an ?_;go_wp2_with fail;refine xw a 8 (λw' a=>⟨FW aa aa (a.aX 4) ay,?_⟩);rw[T];exact⟨aa,f,a.fM 6⟩
 .rintro D c pre t u W O h a;cases c with
  |ret=>
   obtain⟨f,bD,bq,hz,C,rfl⟩:=h;replace a:=a.kg;have T:aE (ly d o bs=(bq,bD)):=hid (by obtain⟨l,hl⟩:=O;rw[XI,<-hl,XT,C];exact NP l _ hz);go_wp2_with fail;refine xw a 7 (λw' a=>⟨FW aa aa (a.aX 3) ay,?_⟩);rw[T];exact⟨aa,f,a.fM 5⟩
  |_=>exact h.elim
end
open Go.RowKit Go.MapKept
def bX.YH{w A xs}(h:bX w A xs):Lib.BytesIn w A xs.length xs:=λa=>by obtain⟨b,o,e,hc⟩:=h a;grind
def preB(xs ct:List Int):Bool:=Lib.hasPrefix (Gu xs) (Gu ct)
def ao0 b c1 xs aJ c2 ct w(h1:bX w b xs)(d:bX w aJ ct)(hc:xs.length<=c1):
 aD aw 282 #[ae b xs.length c1,ae aJ ct.length c2] w λe w'=>e=aB (ai (preB xs ct))/\w'=w:=by
 rcases lL ct.length with a|a;·have h:=Any.bytes_HasPrefix_e2 Tryz.Tt b aJ xs.length c1 c2 w;rw[a];obtain rfl:ct=[]:=j2 a;exact h
 .rcases lL xs.length with c|c
  .have h:=Any.bytes_HasPrefix_e1 Tryz.Tt b aJ c1 ct.length c2 a w;rw[c];obtain rfl:xs=[]:=j2 c;refine h.mono (λe w' ⟨f,g⟩=>⟨f.trans ?_,g⟩);cases ct with
   |nil=>omega
   |cons y ct=>rfl
  .obtain⟨eF,fB,rfl,i⟩:=h1.YH.at c;obtain⟨eV,k,rfl,j⟩:=d.YH.at a;exact Any.bytes_HasPrefix Tryz.Tt eF fB _ c1 eV k _ c2 xs ct w aa aa hc i j
def rV(r:Rd)(m:List Int)(a:Int):Bool×Rd:=
 if r.bq=0 then
  if preB m ((r.bs.drop r.p).take (min m.length (r.bs.length -r.p)))=az then
   if r.p+m.length<=r.bs.length then(az,{r with p:=r.p+m.length})else(ao,pV r m.length)
  else(ao,mE r a r.p)
 else(ao,r)
def anP{r}(h:qO r)m a:qO (rV r m a).2:=by grind[rV,qO,K8,HE]
def aud B A c r o u m f w(C:Has w (ej B A c r))(y:qO r)(M:bX w o m)(hcm:m.length<=u)(hne:∀b,eb o b->¬(ej B A c r).cR b)(S:m.length<=1048576):
 aD aw 210 #[ax (ab ⟨B,0,af⟩),ae o m.length u,J R f] w λe w'=>e=aB (ai (rV r m f).1)/\Turned w w' (ej B A c r) (ej B A c (rV r m f).2):=by
 obtain⟨bs,p,bq,dg⟩:=r;replace y:p<=bs.length/\bs.length<=140737488355328:=y;obtain⟨N,cz⟩:=y;by_cases F:bq=0
 .subst F;obtain⟨k,H⟩:=ex (min m.length (bs.length -p));have Q:k<=bs.length -p:=ad;have G:min (m.length:Int) ((bs.length -p:Nat):Int)=(k:Int):=ad;have D:=hid G;have hc:bs.length<=c:=C.1.2.1.2.2;obtain⟨iL,I⟩:=ex (preB m ((bs.drop p).take k));have v:=hid H;have x:=hid I;have K:aE (∀W,au (ej B A c (⟨bs,p,0,dg⟩:Rd)).cR w W->bX W o m):=hid (λW g=>M.only g (λb off e=>hne b ⟨off,af,e⟩))
  have E:aE (∀W,au (ej B A c (⟨bs,p,0,dg⟩:Rd)).cR w W->∀l j,ak w (ej B A c (⟨bs,p,0,dg⟩:Rd)).cR W l->l[j]?=ab (cg A c bs)->aD aw 282 #[ae o m.length u,ae (fF A c p 1) k (c -p)] W λe w'=>e=aB (ai iL)/\w'=W):=hid (λW g l j h L=>by have h1:=bX.win (ak.at h j L).1 hc (i:=p) (q:=p+k) ad;rw[Nat.add_sub_cancel_left]at h1;have P:=ao0 o u m _ (c -p) _ W (K W g) h1 hcm;grind);clear G H I;go_enter Tryz.func210,Tryz.ntmps210;have a:ak w (ej B A c ⟨bs,p,0,dg⟩).cR w [aj B #[ae A bs.length c,J R (p:Int),J R 0,J R dg] 333,cg A c bs]:=(ak.start C).fi;go_step;refine ah ?_;refine cK ?_;refine pk (ai ao) ?_;refine v6 ?_;refine pl a 0 2 ?_;refine pk (ai ao) ?_;refine pk (ai ao) ?_;refine cx ?_;refine bN a [] (λ_ _=>a1) (λ_ _=>emp) (λ_=>[]) (λ|4=>[0]|9=>[0]|_=>[]) (λ_=>[]) [0,1] (λO=>?_);refine hD ?_;refine dl 0 0 ?_;refine hD ?_;refine dl 0 1 ?_;refine aN _ (λ_ _ _=>A3 22 5 1 _ _ aa dL ay A _ c p (bs.length -p) aa aa ad ad) ?_;refine aK ?_;refine bU λw1 a=>?_;cases iL with
  |false=>
   refine ah ?_;refine v6 ?_;refine aI (J R (k:Int)) (by(have h:=D.out;go_simp;try rw[h])) ?_;refine aI _ (qt 22 5 1 _ _ aa dL ay _ _ _ k aa aa ad) ?_;refine aP (E _ a.only _ 1 a aa) ?_;rintro e T ⟨rfl,rfl⟩;refine aQ ?_;refine pk (ai az) ?_;refine an ?_;have d:rV (⟨bs,p,0,dg⟩:Rd) m f=(ao,mE (⟨bs,p,0,dg⟩:Rd) f p):=by unfold rV;rw[if_pos aa];show(if preB m ((bs.drop p).take (min m.length (bs.length -p)))=az then _ else _)=_;rw[v,x];rfl
   have n:=hid d;clear d;refine cx ?_;refine bN a [9] (λi _=>match i with|9=>bm #[]|_=>a1) (λ_=>λ|9=>aj B (lI A c (mE (⟨bs,p,0,dg⟩:Rd) f p)) 333|_=>emp) (λ|9=>[0]|_=>[]) (λ|8=>[0]|_=>[]) (λ_=>[]) [1,11] (λO=>?_);refine Dq ?_;refine dl 0 1 ?_;refine du (λZ Fr a=>(Nj B 333 A c (⟨bs,p,0,dg⟩:Rd) f p _ (a.has 0)).mono ?_) ?_;·rintro e dA ⟨rfl,t⟩;exact⟨{},aa,a.zm t⟩
   refine bU λU a=>?_;refine ah ?_;refine ag ?_;refine an ?_;go_wp2_with fail;go_ret;exact by rw[n];refine⟨aa,?_⟩;have h:=(a.pick (l':=[aj B (lI A c (mE (⟨bs,p,0,dg⟩:Rd) f p)) 333,cg A c bs]) [1,0]).star;unfold ej;rw[(HE _ _ _).1];exact ak.fM (s:=_) h 0
  |true=>
   refine ah ?_;refine v6 ?_;refine aI (J R (k:Int)) (by(have h:=D.out;go_simp;try rw[h])) ?_;refine aI _ (qt 22 5 1 _ _ aa dL ay _ _ _ k aa aa ad) ?_;refine aP (E _ a.only _ 1 a aa) ?_;rintro e V ⟨rfl,rfl⟩;refine aQ ?_;refine pk (ai ao) ?_;refine an ?_;by_cases z:p+m.length<=bs.length
   .have d:rV (⟨bs,p,0,dg⟩:Rd) m f=(az,⟨bs,p+m.length,0,dg⟩):=by unfold rV;rw[if_pos aa];show(if preB m ((bs.drop p).take (min m.length (bs.length -p)))=az then _ else _)=_;rw[v,x,if_pos aa,if_pos z]
    have n:=hid d;clear d;refine ah ?_;refine v5 ?_;refine aP (aeO B 333 A c (⟨bs,p,0,dg⟩:Rd) _ _ (a.has 0) aa z hc cz) ?_;rintro e X ⟨rfl,t⟩;replace a:=a.ek 0 t;refine aQ ?_;refine v5 ?_;refine ah ?_;refine dZ ?_;go_wp2_with fail;go_ret;exact by rw[n];refine⟨aa,?_⟩;have h:=(a.pick (l':=[aj B (lI A c ⟨bs,p+m.length,0,dg⟩) 333,cg A c bs]) [0,1]).star;exact ak.fM (s:=_) h 0
   .have d:rV (⟨bs,p,0,dg⟩:Rd) m f=(ao,pV (⟨bs,p,0,dg⟩:Rd) m.length):=by unfold rV;rw[if_pos aa];show(if preB m ((bs.drop p).take (min m.length (bs.length -p)))=az then _ else _)=_;rw[v,x,if_pos aa,if_neg z]
    have n:=hid d;clear d;refine ah ?_;refine v5 ?_;refine aP (aeN B 333 A c (⟨bs,p,0,dg⟩:Rd) m.length _ (a.has 0) N cz ad (b8 (b8 aF))) ?_;rintro e Y ⟨rfl,t⟩;replace a:=a.ek 0 t;refine aQ ?_;refine v5 ?_;refine ah ?_;refine dZ ?_;go_wp2_with fail;go_ret;exact by rw[n];refine⟨aa,?_⟩;have h:=(a.pick (l':=[aj B (lI A c (pV (⟨bs,p,0,dg⟩:Rd) m.length)) 333,cg A c bs]) [0,1]).star;unfold ej;rw[(K8 _ _).1];exact ak.fM (s:=_) h 0
 .have d:rV ⟨bs,p,bq,dg⟩ m f=(ao,⟨bs,p,bq,dg⟩):=by grind[rV]
  have n:=hid d;clear d;go_enter Tryz.func210,Tryz.ntmps210;have a:ak w (ej B A c ⟨bs,p,bq,dg⟩).cR w [aj B #[ae A bs.length c,J R (p:Int),J R bq,J R dg] 333,cg A c bs]:=(ak.start C).fi;go_step;refine ah ?_;refine cK ?_;refine pk (ai ao) ?_;refine v6 ?_;refine pl a 0 2 ?_;refine aI (ai az) (by(go_simp;try simp[F])) ?_;refine pk (ai az) ?_;refine ah ?_;refine ag ?_;refine an ?_;go_wp2_with fail;go_ret;exact by rw[n];exact⟨aa,ak.fM (s:=_) a.star 0⟩
structure Rec where
 seq:Int
 id:Int
 cur:Int
 off:Int
 data:List Int
abbrev recC(r:Rec)(A:Option bQ)(c:Nat):Array Value:=#[J aH r.seq,J aH r.id,J R r.cur,J R r.off,ae A r.data.length c]
abbrev Ni:Array Value:=#[J aH 0,J aH 0,J R 0,J R 0,ae af 0 0]
def kf(n:Int):Int:=if n<0\/n>1048576 then 0 else 40+n+4
def ave n:0<=kf n/\kf n<=1048620/\(kf n≠0->44<=kf n):=by grind[kf]
def s9:List Int:=[71,74,82,49]
structure ajU where
 ok:Bool
 seq:Int
 id:Int
 cur:Int
 off:Int
 cnt:Int
 r:Rd
def ER(f:Rd):ajU:=
 let e:=rV f s9 19
 let a:=k' e.2 8
 let b:=k' a.2 8
 let c:=qh b.2
 let d:=qh c.2
 let n:=k' d.2 4
 ⟨e.1,a.1,b.1,c.1,d.1,n.1,n.2⟩
def rS(bs:List Int):Option Rec:=
 let h:=ER ⟨bs.take (min bs.length 40),0,0,0⟩
 if h.ok=ao then af
 else if¬(h.r.bq=0/\h.r.dg=0)\/kf (R.wrap h.cnt)=0\/(bs.length:Int)<kf (R.wrap h.cnt)then af
 else(ta (bs.take (kf (R.wrap h.cnt)).toNat)).map (λall=>⟨h.seq,h.id,h.cur,h.off,all.drop 40⟩)
def wrap_i64 z:-9223372036854775808<=R.wrap z:=by grind[DL,DK]
def adl A c bs w(l:bs.length<=140737488355328)(hb:bX w A bs):
 aD aw 134 #[ae A bs.length c] w λe w'=>∃B a d,e=aB (ax (ab ⟨B,0,af⟩))/\cf w w' (ej B a d ⟨bs,0,0,0⟩):=
 (ar3 A c bs w l hb).mono (λ_ _ ⟨B,a,d,k,lo,hr,j,hn,g⟩=>⟨B,a,d,k,g,⟨hr,j.le (cF _),λb h1 f=>hn (by have i:b=B:=h1;exact i▸f)⟩,λb hb2=>hb2.elim (λh=>by have i:b=B:=h;rw[i];exact⟨lo,aU.lt hr⟩) (λ⟨off,m,e⟩=>by obtain⟨h1,cs,f⟩:=j.2.1 b off m e;exact⟨h1,aU.lt f⟩)⟩)
def aeL n w(hn:-9223372036854775808<=n):
 aD aw 199 #[J R n] w λe w'=>e=aB (J R (kf n))/\ar w w':=by
 by_cases h1:n<0
 .have a:kf n=0:=by grind[kf]
  rw[a];clear a;go_enter Vw,VZ;have b:=bc w;go_step;refine ah ?_;refine cK ?_;refine bu (ai az) ?_;refine ag ?_;iterate 2 refine ps ?_
  refine pk (ai az) ?_;refine ah ?_;refine ag ?_;refine an ?_;go_wp2_with fail;go_ret;exact⟨aa,b.only⟩
 by_cases c:n>1048576
 .have a:kf n=0:=by grind[kf]
  rw[a];clear a;go_enter Vw,VZ;have b:=bc w;go_step;refine ah ?_;refine cK ?_;refine bu (ai ao) ?_;iterate 2 refine ag ?_
  refine bu (ai az) ?_;refine pk (ai az) ?_;refine ah ?_;refine ag ?_;refine an ?_;go_wp2_with fail;go_ret;exact⟨aa,b.only⟩
 .have a:kf n=40+n+4:=by grind[kf]
  rw[a];clear a;go_enter Vw,VZ;have b:=bc w;go_step;refine ah ?_;refine cK ?_;refine bu (ai ao) ?_;iterate 2 refine ag ?_
  refine bu (ai ao) ?_;refine pk (ai ao) ?_;refine b' ?_;refine pad 40 n (40+n) ?_;refine pad _ 4 (40+n+4) ?_;refine bP ?_;go_wp2_with fail;go_ret;exact⟨aa,b.only⟩
def asB{bs d:List Int}{n}(h:ta (bs.take n)=ab d)(hn:44<=n)(a:n<=bs.length):40<=d.length:=by grind[ta]
def e6.Gc{w A c i N bs}(h:e6 N w A c bs):e6 N w (fF A c i 1) (c -i) (bs.drop i):=
 ⟨h.1.Gc h.2.2,h.2.1.win,by have:=h.2.2;simp;omega⟩
def atV A c bs w(hl:bs.length<=17592186044416)(hc:bs.length<=c)(hb:bX w A bs):
 aD aw 132 #[ae A bs.length c] w λe w'=>(∃r,rS bs=ab r/\∃y C,e=aB (bm #[av (recC r y C),J R 0])/\cf w w' (cg y C r.data))\/(rS bs=af/\e=aB (bm #[av Ni,J R 19])/\ar w w'):=by
 obtain⟨u,dJ⟩:=ex (min bs.length 40);have gd:aE (min (bs.length:Int) 40=(u:Int)):=hid ad;have apu:u<=40/\u<=bs.length:=ad;have N:aE (rS bs=(let h:=ER ⟨bs.take u,0,0,0⟩;if h.ok=ao then af else if¬(h.r.bq=0/\h.r.dg=0)\/kf (R.wrap h.cnt)=0\/(bs.length:Int)<kf (R.wrap h.cnt)then af else(ta (bs.take (kf (R.wrap h.cnt)).toNat)).map (λall=>⟨h.seq,h.id,h.cur,h.off,all.drop 40⟩))):=hid (by rw[<-dJ];rfl);clear dJ;obtain⟨s,Z⟩:∃s:Rd,(⟨bs.take u,0,0,0⟩:Rd)=s:=⟨_,aa⟩;have h0:qO s:=by rw[<-Z];exact⟨cF _,aF⟩
 have hb0:s.bs=bs.take u:=aF;have ap4:=Z;rw[Z]at N;have T:=anP h0 s9 19;obtain⟨O,x,h1⟩:∃O x,rV s s9 19=(O,x):=⟨_,_,aa⟩;rw[h1]at T;have U:=NC T 8;have hg2:=Jm x 8;obtain⟨v2,G,D⟩:∃v r,k' x 8=(v,r):=⟨_,_,aa⟩;rw[D]at U hg2;have V:=NC U 8;have hg3:=Jm G 8;obtain⟨v3,H,h3⟩:∃v r,k' G 8=(v,r):=⟨_,_,aa⟩;rw[h3]at V hg3;have X:=ac5 V;have hg4:=ac6 H;obtain⟨v4,I,h4⟩:∃v r,qh H=(v,r):=⟨_,_,aa⟩;rw[h4]at X hg4;have Y:=ac5 X;have yX:=ac6 I;obtain⟨v5,K,h5⟩:∃v r,qh I=(v,r):=⟨_,_,aa⟩;rw[h5]at Y yX;have abK:=NC Y 4;have xf:=Jm K 4;obtain⟨v6,L,h6⟩:∃v r,k' K 4=(v,r):=⟨_,_,aa⟩;rw[h6]at abK xf;have aa8:ER s=⟨O,v2,v3,v4,v5,v6,L⟩:=by grind[ER]
 rw[aa8]at N;have H1:aE (∀B A c W,Has W (ej B A c s)->∀M S,bX W M s9->4<=S->(∀b,eb M b->¬(ej B A c s).cR b)->aD aw 210 #[ax (ab ⟨B,0,af⟩),ae M 4 S,J R 19] W λe w'=>e=aB (ai O)/\Turned W w' (ej B A c s) (ej B A c x)):=hid (λB A c W h M S e1 fH lC=>by have q:=aud B A c s M S s9 19 W h h0 e1 fH lC bf;rw[h1]at q;exact q);have eL:aE (∀B A c W,Has W (ej B A c x)->aD aw 135 #[ax (ab ⟨B,0,af⟩),J R 8] W λe w'=>e=aB (J aH v2)/\Turned W w' (ej B A c x) (ej B A c G)):=hid (λB A c W h=>by have q:=Je B A c x 8 W h T ad;rw[D]at q;exact q);have gK:aE (∀B A c W,Has W (ej B A c G)->aD aw 135 #[ax (ab ⟨B,0,af⟩),J R 8] W λe w'=>e=aB (J aH v3)/\Turned W w' (ej B A c G) (ej B A c H)):=hid (λB A c W h=>by have q:=Je B A c G 8 W h U ad;rw[h3]at q;exact q);have hT:aE (∀B A c W,Has W (ej B A c H)->aD aw 211 #[ax (ab ⟨B,0,af⟩)] W λe w'=>e=aB (J R v4)/\Turned W w' (ej B A c H) (ej B A c I)):=hid (λB A c W h=>by have q:=aeG B A c H W h V;rw[h4]at q;exact q);have iQ:aE (∀B A c W,Has W (ej B A c I)->aD aw 211 #[ax (ab ⟨B,0,af⟩)] W λe w'=>e=aB (J R v5)/\Turned W w' (ej B A c I) (ej B A c K)):=hid (λB A c W h=>by have q:=aeG B A c I W h X;rw[h5]at q;exact q);have qG:aE (∀B A c W,Has W (ej B A c K)->aD aw 135 #[ax (ab ⟨B,0,af⟩),J R 4] W λe w'=>e=aB (J aH v6)/\Turned W w' (ej B A c K) (ej B A c L)):=hid (λB A c W h=>by have q:=Je B A c K 4 W h Y ad;rw[h6]at q;exact q);obtain⟨⟨bq,dg⟩,gj⟩:∃p:Int×Int,(L.bq,L.dg)=p:=⟨_,aa⟩;simp only[Prod.mk.injEq]at gj;obtain⟨dr,ES⟩:=gj;have P:aE (∀B A c W,Has W (ej B A c L)->aD aw 212 #[ax (ab ⟨B,0,af⟩)] W λe w'=>e=aB (av #[J R bq,J R dg])/\ar W w'):=hid (λB A c W h=>by have q:=aug B A c L W h;rw[dr,ES]at q;exact q);simp only[dr,ES]at N;have azu:0<=v6/\v6<18446744073709551616:=xf;clear hb0;clear h0 h1 D h3 h4 h5 h6 T U V X Y abK hg2 hg3 hg4 yX xf aa8 dr ES Z
 have rz:aE (∀W,ar w W->aD aw 134 #[ae A u c] W λe w'=>∃B y C,e=aB (ax (ab ⟨B,0,af⟩))/\cf W w' (ej B y C s)):=hid (λW g=>by have q:=adl A c (bs.take u) W aF (bX.Dl (hb.aG g) apu.2);grind)
 have er:aE (∀W,ar w W->∀n:Nat,(n:Int)<=1048620->n<=bs.length->aD aw 213 #[ae A n c] W λe w'=>(∃d y C,ta (bs.take n)=ab d/\e=aB (bm #[ae y d.length C,ai az])/\e6 W.heap.size w' y C d/\ar W w')\/(ta (bs.take n)=af/\e=aB (bm #[ae af 0 0,ai ao])/\ar W w')):=hid (λW g n h1 D=>by have q:=asD A c (bs.take n) W aF aF (bX.Dl (hb.aG g) D);grind);clear hb ap4;go_enter func132,ntmps132;have a:=bc w;go_upto_region 0 with fail;refine wp_region_lit ?_;refine bA a #[J aH 0,J aH 0,J R 0,J R 0,ae af 0 0] (λcA w1 a=>?_);refine en ?_;iterate 3 refine ag ?_
 refine aI (J R (u:Int)) (by(have h:=gd.out;go_simp;try rw[h])) ?_;refine aI _ (qt 22 5 1 _ _ aa dL ay A _ c u aa aa ad) ?_;refine aP (rz.out _ a.only) ?_;rintro e aW ⟨o,m,c1,rfl,hf⟩;replace a:=a.new _ hf;refine Ds ?_;cases O with
 |false=>
  refine b' ?_;refine fC a #[J d' 71,J d' 74,J d' 82,J d' 49] 5 (λDw bI a=>?_);refine C3 a 0 (FF s9 aa aa (a.aX 0) aa dL l2) (λcc a=>?_);refine aP (H1.out o m c1 _ (a.has 1) _ 4 (a.at 0) (b4 _) (λb hb=>a.ne (i:=0) (j:=1) aa aa bf b hb)) ?_;rintro e cJ ⟨rfl,k⟩;replace a:=a.ek 1 k;refine aQ ?_;refine pk (ai az) ?_;refine b' ?_;refine a' a 2 (av #[J aH 0,J aH 0,J R 0,J R 0,ae af 0 0]) (λc5 a=>?_);refine bP ?_;go_wp2_with fail;refine dp (v:=_) (mL aa aa aa (a.aX 2) ay ay) aa (b8 ⟨by rw[N.out];rfl,aa,a.only⟩)
 |true=>
  refine b' ?_;refine fC a #[J d' 71,J d' 74,J d' 82,J d' 49] 5 (λDw dK a=>?_);refine C3 a 0 (FF s9 aa aa (a.aX 0) aa dL l2) (λdz a=>?_);refine aP (H1.out o m c1 _ (a.has 1) _ 4 (a.at 0) (b4 _) (λb hb=>a.ne (i:=0) (j:=1) aa aa bf b hb)) ?_;rintro e eY ⟨rfl,k⟩;replace a:=a.ek 1 k;refine aQ ?_;refine pk (ai ao) ?_;refine b' ?_;refine aP (eL.out o m c1 _ (a.has 1)) ?_;rintro e gQ ⟨rfl,k⟩;replace a:=a.ek 1 k;refine aQ ?_;refine ag ?_;refine aP (gK.out o m c1 _ (a.has 1)) ?_;rintro e ib ⟨rfl,k⟩;replace a:=a.ek 1 k;refine aQ ?_;refine ag ?_;refine aP (hT.out o m c1 _ (a.has 1)) ?_;rintro e jS ⟨rfl,k⟩;replace a:=a.ek 1 k;refine aQ ?_;refine ag ?_;refine aP (iQ.out o m c1 _ (a.has 1)) ?_;rintro e kh ⟨rfl,k⟩;replace a:=a.ek 1 k;refine aQ ?_;refine ag ?_;refine bA a #[J aH 0,J aH 0,J R 0,J R 0,ae af 0 0] (λeg lf a=>?_);refine a' a 0 (av #[J aH v2,J aH v3,J R v4,J R v5,ae af 0 0]) (λmr a=>?_);refine an ?_;obtain⟨l,Mr⟩:=ex (R.wrap v6);have aqt:-9223372036854775808<=l:=by rw[<-Mr];exact wrap_i64 _
  have Q:aE (rS bs=if¬(bq=0/\dg=0)\/kf l=0\/(bs.length:Int)<kf l then af else(ta (bs.take (kf l).toNat)).map (λall=>⟨v2,v3,v4,v5,all.drop 40⟩)):=hid (by rw[<-Mr];exact N.out);have ajS:=hid Mr;clear Mr;refine b' ?_;refine aP (qG.out o m c1 _ (a.has 2)) ?_;rintro e n1 ⟨rfl,k⟩;replace a:=a.ek 2 k;refine aQ ?_;refine aI (J R l) (by(have h:=ajS.out;go_simp;try rw[h])) ?_;refine bH (aeL l _ aqt) a (λre a=>?_);refine bP ?_;have acA:=ave l;have qK:aE (kf l=kf l):=hid aa;by_cases hF:bq=0/\dg=0
  .obtain⟨rfl,rfl⟩:=hF;by_cases lS:kf l=0
   .have F:=hid lS;refine b' ?_;refine bH (P.out o m c1 _ (a.has 2)) a (λrf a=>?_);refine ag ?_;refine aI _ (by(go_simp;try rfl)) ?_;iterate 2 refine ag ?_
    refine di F (ai az) ?_;refine pk (ai az) ?_;refine ag ?_;iterate 4 refine ps ?_
    refine cK ?_;refine a' a 3 (av #[J aH 0,J aH 0,J R 0,J R 0,ae af 0 0]) (λuV a=>?_);refine bP ?_;go_wp2_with fail;refine dp (v:=_) (mL aa aa aa (a.aX 3) ay ay) aa (b8 ⟨by rw[Q.out];rw[if_pos (b8 (bM F.out))],aa,a.only⟩)
   .by_cases yS:(bs.length:Int)<kf l
    .have F:=hid lS;refine b' ?_;refine bH (P.out o m c1 _ (a.has 2)) a (λxS a=>?_);refine ag ?_;refine aI _ (by(go_simp;try rfl)) ?_;iterate 2 refine ag ?_
     refine aI (ai ao) (by(have h:=F.out;go_simp;first|done|(simp[h];done)|omega)) ?_;refine pk (ai ao) ?_;iterate 4 refine ag ?_
     refine bu (ai az) ?_;refine pk (ai az) ?_;refine b' ?_;refine a' a 3 (av #[J aH 0,J aH 0,J R 0,J R 0,ae af 0 0]) (λBa a=>?_);refine bP ?_;go_wp2_with fail;refine dp (v:=_) (mL aa aa aa (a.aX 3) ay ay) aa (b8 ⟨by rw[Q.out];rw[if_pos (b8 (b8 yS))],aa,a.only⟩)
    .have F:=hid lS;obtain⟨n,hn⟩:∃n:Nat,kf l=n:=⟨(kf l).toNat,ad⟩;have dO:=hid hn;have SO:n<=bs.length:=ad;have apL:44<=n:=ad;have j8:(n:Int)<=1048620:=ad;refine b' ?_;refine bH (P.out o m c1 _ (a.has 2)) a (λBb a=>?_);refine ag ?_;refine aI _ (by(go_simp;try rfl)) ?_;iterate 2 refine ag ?_
     refine aI (ai ao) (by(have h:=F.out;go_simp;first|done|omega|omega)) ?_;refine pk (ai ao) ?_;iterate 4 refine ag ?_
     refine bu (ai ao) ?_;refine pk (ai ao) ?_;refine an ?_;have azv:=er.out;clear hn;have fA:aE (rS bs=(ta (bs.take n)).map (λall=>⟨v2,v3,v4,v5,all.drop 40⟩)):=hid (by rw[Q.out,if_neg ad,dO.out];rfl);rcases hop:ta (bs.take n)with _|d
     .have E:=hid hop;clear hop;refine b' ?_;refine aI (J R (n:Int)) (by(have h:=dO.out;go_simp;try rw[h])) ?_;refine aI _ (qt 22 5 1 _ _ aa dL ay A _ c n aa aa ad) ?_;refine aP (er.out _ a.only n j8 SO) ?_;rintro e Dk (⟨d,_,_,t,_⟩|⟨_,rfl,g⟩);·rw[E.out]at t;cases t
      replace a:=a.aG g;refine aQ ?_;iterate 5 refine ag ?_
      refine b' ?_;refine pk (ai az) ?_;refine b' ?_;refine a' a 3 (av #[J aH 0,J aH 0,J R 0,J R 0,ae af 0 0]) (λGb a=>?_);refine bP ?_;go_wp2_with fail;refine dp (v:=_) (mL aa aa aa (a.aX 3) ay ay) aa (b8 ⟨by rw[fA.out,E.out];rfl,aa,a.only⟩)
     .have E:=hid hop;have jl:40<=d.length:=asB hop apL SO;clear hop;refine b' ?_;refine aI (J R (n:Int)) (by(have h:=dO.out;go_simp;try rw[h])) ?_;refine aI _ (qt 22 5 1 _ _ aa dL ay A _ c n aa aa ad) ?_;refine aP (er.out _ a.only n j8 SO) ?_;rintro e NJ (⟨d2,z,f,t,rfl,CM,g⟩|⟨t,_⟩);rotate_left;·rw[E.out]at t;cases t
      rw[E.out]at t;injection t with t;subst t;replace a:=a.jE g CM;refine aQ ?_;iterate 5 refine ag ?_
      refine b' ?_;refine pk (ai ao) ?_;refine b' ?_;refine aI (ae (fF z f 40 1) (d.length -40) (f -40)) (A3 22 5 1 (bj 59) (.const (J R 40)) aa dL ay z d.length f 40 (d.length -40) aa aa ad (a.kK 0).2.2) ?_;refine ag ?_;refine a' a 1 (ae (fF z f 40 1) (d.length -40) (f -40)) (λNK a=>?_);refine ah ?_;refine bh a 1 #[J aH v2,J aH v3,J R v4,J R v5,ae (fF z f 40 1) (d.length -40) (f -40)] ?_;refine a' a 4 (av #[J aH v2,J aH v3,J R v4,J R v5,ae (fF z f 40 1) (d.length -40) (f -40)]) (λNL a=>?_);refine bP ?_;go_wp2_with fail;refine dp (v:=bm #[av #[J aH v2,J aH v3,J R v4,J R v5,ae (fF z f 40 1) (d.length -40) (f -40)],J R 0]) (mL aa aa aa (a.aX 4) ay ay) aa (bM ⟨⟨v2,v3,v4,v5,d.drop 40⟩,by rw[fA.out,E.out];rfl,fF z f 40 1,f -40,a8,(a.as 0 aa _ (λh=>e6.Gc h) (λb hb=>Te hb)).fresh 0⟩)
  .have aoE:=hid hF;refine b' ?_;refine bH (P.out o m c1 _ (a.has 2)) a (λNM a=>?_);refine ag ?_;refine aI (ai az) (by(go_simp;exact λh1 D=>hF ⟨h1,D⟩)) ?_;refine ag ?_;iterate 2 refine ps ?_
   refine pk (ai az) ?_;refine ag ?_;iterate 4 refine ps ?_
   refine cK ?_;refine a' a 3 (av #[J aH 0,J aH 0,J R 0,J R 0,ae af 0 0]) (λUE a=>?_);refine bP ?_;go_wp2_with fail;refine dp (v:=_) (mL aa aa aa (a.aX 3) ay ay) aa (b8 ⟨by rw[Q.out];rw[if_pos (bM aoE.out)],aa,a.only⟩)
def FU(a i cu of n:Nat):List Int:=s9++iU [(a,8),(i,8),(cu,8),(of,8),(n,4)]
def uh(a i cu of:Nat)(ds:List Int):List Int:=A1 (FU a i cu of ds.length++ds)
def UK{z}(h:0<=z/\z<18446744073709551616):aH.wrap z=z:=by grind[DL,DK,JT]
def at1(a i cu of n):(FU a i cu of n).length=40:=aY
def Row.F2{w N n c A bs}(h:Row N w A n c 5 1 (bs.map bb)):bX w A bs:=by grind[bX.nU]
def Row.avf{w N n c A}{bs:List Int}(h:Row N w A n c 5 1 (bs.map bb)):bs.length=n:=by have a:=Row.len h;simpa using a
def at8(d i cu of:Nat)A c ds w(O:d<18446744073709551616/\i<18446744073709551616/\cu<=4611686018427387903/\of<=4611686018427387903/\ds.length<=1048576)(hb:bX w A ds):
 aD aw 290 #[av #[J aH (d:Int),J aH (i:Int),J R (cu:Int),J R (of:Int),ae A ds.length c]] w λe w'=>∃l n,e=aB (bm #[ae l (uh d i cu of ds).length n,J R 0])/\cf w w' (cg l n (uh d i cu of ds)):=by
 have r:aE (∀a:Nat,(a:Int)<=4611686018427387903->∀W,aD aw 115 #[av #[J R (a:Int),J R 0]] W λe w'=>e=aB (ai az)/\ar W w'):=hid (λa P W=>xP (a:Int) 0 W ⟨ad,ad,ad⟩);have t:aE (∀W,ar w W->bX W A ds):=hid (λW g=>hb.aG g)
 have u:aE (∀W,(∀B F,aU W F #[J aH (d:Int),J R 8,J aH (i:Int),J R 8,J aH (cu:Int),J R 8,J aH (of:Int),J R 8,J aH (ds.length:Int),J R 4] 227->bX W (ab ⟨B,0,af⟩) s9->aD aw 126 #[ae (ab ⟨B,0,af⟩) 4 4,ae (ab ⟨F,0,af⟩) 5 5] W λe w'=>∃l n,e=aB (bm #[ae l 40 n,ai az])/\Row W.heap.size w' l 40 n 5 1 ((FU d i cu of ds.length).map bb)/\ar W w')):=hid (λW B F j x=>by
  have q:=afW (ab ⟨B,0,af⟩) 4 s9 F 0 5 [(d,8),(i,8),(cu,8),(of,8),(ds.length,4)] W ⟨bf,a8⟩ x (λf Q=>by grind[yO]) (λk f hk=>by
   obtain rfl|rfl|rfl|rfl|rfl|N:k=0\/k=1\/k=2\/k=3\/k=4\/5<=k:=ad;·cases hk;exact⟨j.cell _ aa,j.cell _ aa⟩
   .cases hk;exact⟨j.cell _ aa,j.cell _ aa⟩
   .cases hk;exact⟨j.cell _ aa,j.cell _ aa⟩
   .cases hk;exact⟨j.cell _ aa,j.cell _ aa⟩
   .cases hk;exact⟨j.cell _ aa,j.cell _ aa⟩
   grind);have v:(s9++iU [(d,8),(i,8),(cu,8),(of,8),(ds.length,4)]).length=40:=at1 d i cu of ds.length;rw[v]at q;exact q);clear hb;go_enter func290,ntmps290;have b:=bc w;go_step;refine ah ?_;refine bG b (av #[J aH (d:Int),J aH (i:Int),J R (cu:Int),J R (of:Int),ae A ds.length c]) (λG w1 b=>?_);refine Dr ?_;refine pl b 0 2 ?_;refine ag ?_;refine bH (r cu ad _) b (λS b=>?_);refine pk (ai ao) ?_;refine v2 ?_;refine pl b 0 3 ?_;refine ag ?_;refine bH (r of ad _) b (λT b=>?_);refine pk (ai ao) ?_;refine pk (ai ao) ?_;refine v2 ?_;refine pl b 0 4 ?_;refine ag ?_;refine bu (ai ao) ?_;refine pk (ai ao) ?_;refine ah ?_;refine fC b #[J d' 71,J d' 74,J d' 82,J d' 49] 5 (λH U b=>?_);refine C3 b 0 (FF s9 aa aa (b.aX 0) aa dL l2) (λV b=>?_);refine ag ?_;refine pl b 1 0 ?_;refine v2 ?_;refine pl b 1 1 ?_;refine v2 ?_;refine pl b 1 2 ?_;refine aI (J aH (cu:Int)) (by(have h:=UK (z:=(cu:Int)) ad;go_simp;try rw[h])) ?_;refine v2 ?_;refine pl b 1 3 ?_;refine aI (J aH (of:Int)) (by(have h:=UK (z:=(of:Int)) ad;go_simp;try rw[h])) ?_;refine v2 ?_;refine pl b 1 4 ?_;refine ag ?_;refine aI (J aH (ds.length:Int)) (by(have h:=UK (z:=(ds.length:Int)) ad;go_simp;try rw[h])) ?_;refine ag ?_;refine fC b #[J aH (d:Int),J R 8,J aH (i:Int),J R 8,J aH (cu:Int),J R 8,J aH (of:Int),J R 8,J aH (ds.length:Int),J R 4] 227 (λI X b=>?_);refine aP (u _ _ _ (b.aX 0) (b.at 1)) ?_;rintro e Y ⟨C,K,rfl,hrow,g⟩;replace b:=b.k9 g hrow;refine aQ ?_;refine v5 ?_;refine hE ?_;refine pl b 3 4 ?_;refine lZ (m:=ds.length) b 0 1 ((t _ b.only).cells) (xE ds) (λD L Z b=>?_)
 have s:aE (∀W o p,Row 0 W o (40+ds.length) p 5 1 ((FU d i cu of ds.length).map bb++ds.map bb)->aD aw 325 #[ae o (40+ds.length) p] W λe w'=>∃l n,e=aB (ae l (uh d i cu of ds).length n)/\e6 W.heap.size w' l n (uh d i cu of ds)/\ar W w'):=hid (λW o p hr=>by rw[<-List.map_append]at hr;have e:=hr.avf;have q:=au3 o p (FU d i cu of ds.length++ds) W ad (by rw[e];exact hr.cap) hr.F2;rw[e]at q;exact q);refine aP (s _ _ _ (b.at 0)) ?_;rintro e eY ⟨E,M,rfl,y,g⟩;replace b:=b.jE g y;refine aQ ?_;refine dZ ?_;go_wp2_with fail;go_ret2;exact⟨_,_,aa,b.fresh 0⟩
def Ly{a:Type}{L:List a}{p j x}(hx:L[j]?=ab x)(b:p x=az)(hb:∀(i) y,i<j->L[i]?=ab y->p y=ao):L.findIdx? p=ab j:=by grind[QN]
theorem Lx{a:Type}{L:List a}{p}(hb:∀(i:Nat) y,L[i]?=ab y->p y=ao):L.findIdx? p=none:=by grind[qM]
abbrev RecM:=Rec×Option bQ×Nat
def fT(l:List RecM):List Value:=l.flatMap (λx=>[J aH x.1.seq,J aH x.1.id,J R x.1.cur,J R x.1.off,ae x.2.1 x.1.data.length x.2.2])
theorem I8 L:(fT L).length=L.length*5:=by
 induction L with
 |nil=>rfl
 |cons x L a=>grind[fT]
def FV(L a):fT (L++a)=fT L++fT a:=List.flatMap_append
def Ud x:fT [x]=([J aH x.1.seq,J aH x.1.id,J R x.1.cur,J R x.1.off,ae x.2.1 x.1.data.length x.2.2]:List aO):=rfl
def at6 L j x(hx:L[j]?=ab x):fT L=fT (L.take j)++(([J aH x.1.seq,J aH x.1.id,J R x.1.cur,J R x.1.off,ae x.2.1 x.1.data.length x.2.2]:List aO)++fT (L.drop (j+1))):=by obtain⟨a,hx⟩:=e5.1 hx;rw[<-Ud,<-FV,<-FV];congr 1;subst hx;simp
def Uc L j x(hx:L[j]?=ab x):∀(i) v,(([J aH x.1.seq,J aH x.1.id,J R x.1.cur,J R x.1.off,ae x.2.1 x.1.data.length x.2.2]:List aO):List aO)[i]?=ab v->(fT L)[j*5+i]?=ab v:=λi v hv=>by
 have b:=(e5.1 hx).1;have hi:i<5:=(e5.1 hv).1;have a:(fT (L.take j)).length=j*5:=by grind[I8]
 rw[at6 L j x hx,o0 ad,a,show j*5+i -j*5=i by omega,wM ad];exact hv
def zh(L:List RecM)(p:RecM->Bool):Int:=match L.findIdx? p with|some k=>(k:Int)|none=>-1
def at4 A (c g:Nat) lb L p w (cz:L.length<=1073741824) (hr:Row 0 w A L.length c 137 5 (fT L)) (q:∀args w,(km g args).run aw w=a6 (.enter g args) w)
 (hp:∀x W,x∈L->ar w W->aD aw g (#[av #[J aH x.1.seq,J aH x.1.id,J R x.1.cur,J R x.1.off,ae x.2.1 x.1.data.length x.2.2]]++lb) W λe w'=>e=aB (ai (p x))/\ar W w'):
 aD aw 285 #[ae A L.length c,dC (ed g) #[] lb] w λe w'=>e=aB (J R (zh L p))/\ar w w':=by
 have E:=hr;obtain⟨hlen,_⟩:=E;have u:=hid q;have z:=hid hp;have o:aE (∀W,ar w W->Row 0 W A L.length c 137 5 (fT L)):=hid (λW g=>I1 hr g);clear hr q hp hlen;go_enter func285,ntmps285;have a:=bc w;go_step;refine ah ?_;refine ag ?_;refine ah ?_;refine v3 ?_;refine an ?_;go_wp2_with fail;go_loopw [8] (λk wr=>∃j:Nat,j<=L.length/\k=J R (j:Int)/\(∀(i:Nat) (x:RecM),i<j->L[i]?=ab x->p x=ao)/\ak w (λ_=>False) wr []) (λk wr=>L.length -(cy k).toNat);case atStart=>grind
 case round=>
  clear a;obtain⟨j,G,rfl,s,a⟩:=hrel;by_cases hlt:j<L.length
  .have D:(j:Int)<(L.length:Int):=ad;obtain⟨x,hx⟩:∃x,L[j]?=ab x:=⟨_,cC hlt⟩;obtain⟨d,cur,r,C,_,_,_,_⟩:=(o.out _ a.only).blk ad;obtain⟨iL,t⟩:=ex (p x);have F:=cY hx;have B:=hid (Uc L j x hx);have n:=hid hx;have b:=hid t;have m:=hid s;have l:=hid r;clear hx t s C r;go_step;refine ah ?_;refine ag ?_;refine ah ?_;refine v2 ?_;refine jz ?_;refine aI (ax (ab ⟨d,(j*5),af⟩)) (cq 235 137 5 (bj 12) (bj 13) aa x3 ay d 0 (L.length) c j ((j*5)) (by show ae A _ _=_;rw[l]) aa hlt ad) ?_;refine aI _ (by(refine eC _ _ aa d _ aa _ (Row.range (o _ a.only) l (λi v hi=>B i v hi)) Pj aa ay)) ?_;refine bH ((by have h:=z.out x _ F a.only;rw[b.out]at h;exact h)) a (λw1 a=>?_) (hr:=by(go_simp;exact u _ _));refine an ?_;cases iL with
   |true=>
    refine ah ?_;refine dZ ?_;go_wp2_with fail;go_ret;exact⟨by rw[show zh L p=(j:Int)from by unfold zh;rw[show L.findIdx? p=ab j from Ly n b m]];rfl,a.only⟩
   |false=>
    refine ah ?_;refine pad (j:Int) 1 ((j+1:Nat):Int) ?_;refine bP ?_;go_wp2_with fail;go_roundw;case rel=>exact⟨j+1,ad,rfl,λi y hi f=>by rcases Nat.lt_succ_iff_lt_or_eq.1 hi with h|rfl;exact m i y h f;rw[n]at f;cases f;exact b,a⟩
    case measure=>simp[cy]<;>omega
  .have D:¬(j:Int)<(L.length:Int):=ad;obtain rfl:j=L.length:=ad;go_step;refine ah ?_;refine ag ?_;refine ah ?_;refine ag ?_;refine an ?_;go_wp2_with fail;go_ret;exact⟨by rw[show zh L p=-1 from by grind[zh,Lx]];rfl,a.only⟩
def at3 A (c g:Nat) lb L (p:RecM->Bool) w (cz:L.length<=1073741824) (hr:Row 0 w A L.length c 137 5 (fT L)) (B:∀args w,(km g args).run aw w=a6 (.enter g args) w)
 (hp:∀x W,x∈L->au (eb A) w W->aD aw g (#[av #[J aH x.1.seq,J aH x.1.id,J R x.1.cur,J R x.1.off,ae x.2.1 x.1.data.length x.2.2]]++lb) W λe w'=>e=aB (ai (p x))/\ar W w'):
 aD aw 215 #[ae A L.length c,dC (ed g) #[] lb] w λe w'=>∃P,e=aB (ae P (L.filter (λx=>!p x)).length c)/\Turned w w' (bk A L.length c 137 5 (fT L)) (bk P (L.filter (λx=>!p x)).length c 137 5 (fT (L.filter (λx=>!p x)))):=by
 have U:=hid B;have D:0<L.length->_:=λh=>hr.blk h;obtain⟨N,K⟩:=ex (zh L p);have X:aE (∀W,au (eb A) w W->Row 0 W A L.length c 137 5 (fT L)->aD aw 285 #[ae A L.length c,dC (ed g) #[] lb] W λe w'=>e=aB (J R N)/\ar W w'):=hid (λW o h=>by have q:=at4 A c g lb L p W cz h B (λx eE hx g2=>hp x eE hx (o.trans g2.to (λ_ _ h=>h)));rw[K]at q;exact q);have Y:=hid hp;have hr1:=hid hr;have Is:=hid (λb (hb:eb A b)=>(Row.lt hr hb).2);by_cases CD:N=-1;clear B hp
 .subst CD;have hno:L.filter (λx=>!p x)=L:=by grind[zT,zh]
  rw[hno];clear hno K D hr;go_enter Tryz.func215,Tryz.ntmps215;have a:=ak.start (t:=bk A L.length c 137 5 (fT L)) ⟨hr1,Is⟩;go_step;refine ah ?_;refine mO ?_;refine bH (X.out _ a.only (a.at 0)) a (λw1 a=>?_);refine cK ?_;refine pk (ai az) ?_;refine ah ?_;refine dZ ?_;go_wp2_with fail;go_ret;exact⟨A,aa,a.fM 0⟩
 .obtain⟨d,p7⟩:∃d,L.findIdx? p=ab d:=by grind[zh]
  have Sv:N=(d:Int):=by grind[zh]
  subst Sv;obtain⟨jm,qd,hb1⟩:=QN.1 p7;obtain⟨G,cur,rfl,kM,j9,hcm,hcs,E⟩:=D ad;have apN:¬(d:Int)=-1:=ad;have ET:(L.take d).filter (λx=>!p x)=L.take d:=by grind[zT,qM]
  have hx1:L[d]?=ab L[d]:=cC jm
  have hst:∃f fg,cur=(fT ((L.take (d+1)).filter (λx=>!p x))++(f++(fT (L.drop (d+1))++fg))).toArray/\f.length=5/\((L.take (d+1)).filter (λx=>!p x)).length=d:=by
   have bB:(L.take (d+1)).filter (λx=>!p x)=L.take d:=by grind[gg]
   refine⟨fT [L[d]],cur.toList.drop (L.length*5),?_,aY,aF⟩;rw[bB,<-j0,<-j0,<-FV,<-FV,show L.take d++[L[d]]++L.drop _=L by simp,<-E,List.take_append_drop]
  obtain⟨f,fg,H0,gr,l⟩:=hst;have aoH:∀b,eb (ab (⟨G,0,af⟩:bQ)) b->b=G:=λb ⟨off,sp,e⟩=>by grind
  have hsz:cur.size=c*5:=hcs;have j':fg.length+L.length*5=c*5:=by grind[I8]
  have Qt:=hid j';have r:=hid j9;have Q:=hid hcm;have qK:=hid hsz;have ln:=hid H0;have BB:=hid E;have ll:=hid kM;clear j' K p7 hb1 ET qd hx1 j9 hcm hcs E D hr kM hsz H0;go_enter Tryz.func215,Tryz.ntmps215;have a:ak w (eb (ab (⟨G,0,af⟩:bQ))) w [aj G cur 137]:=(ak.start (t:=bk (ab (⟨G,0,af⟩:bQ)) L.length c 137 5 (fT L)) ⟨hr1,Is⟩).as 0 aa _ (λ_=>ll) (λb hb=>⟨0,af,by rw[show b=G from hb]⟩);go_step;refine ah ?_;refine mO ?_;refine bH (X.out _ a.only (by have h:=Jb (n:=L.length) (a.aX 0) r Q qK;rw[show cur.toList.take (L.length*5)=fT L from BB]at h;exact h)) a (λaW a=>?_);refine cK ?_;refine bu (ai ao) ?_;refine b' ?_;refine pad (d:Int) 1 ((d+1:Nat):Int) ?_;refine bP ?_;have cj:=a;rw[ln]at a;go_wp2_with fail;go_loopw [5,6] (λaS O wr=>∃(i j:Nat) (f:List aO),i<j/\j<=L.length/\aS=J R (i:Int)/\O=J R (j:Int)/\((L.take j).filter (λx=>!p x)).length=i/\f.length+i*5=j*5/\ak w (eb (ab (⟨G,0,af⟩:bQ))) wr [aj G (fT ((L.take j).filter (λx=>!p x))++(f++(fT (L.drop j)++fg))).toArray 137]) (λaS O wr=>L.length -(cy O).toNat);case atStart=>exact⟨d,d+1,_,ad,ad,aa,aa,l,ad,a⟩
  case round=>
   clear a cj l gr;obtain⟨i,j,f,iI,hj,rfl,rfl,l,gr,a⟩:=hrel;by_cases hlt:j<L.length
   .have cN:(j:Int)<(L.length:Int):=ad;obtain⟨x,hx⟩:∃x,L[j]?=ab x:=⟨_,cC hlt⟩;have lA:=cY hx;obtain⟨iL,oD⟩:=ex (p x);have hdr:fT (L.drop j)=([J aH x.1.seq,J aH x.1.id,J R x.1.cur,J R x.1.off,ae x.2.1 x.1.data.length x.2.2]:List aO)++fT (L.drop (j+1)):=by rw[<-Ud,<-FV];congr 1;obtain⟨h1,rfl⟩:=e5.1 hx;simp
    obtain⟨pre,M⟩:=ex (fT ((L.take j).filter (λx=>!p x)));have SY:pre.length=i*5:=by grind[I8]
    obtain⟨eI,I⟩:=ex (fT (L.drop (j+1)));rw[hdr,M,I]at a
    have xo:∀(k:Nat) (v:aO),(([J aH x.1.seq,J aH x.1.id,J R x.1.cur,J R x.1.off,ae x.2.1 x.1.data.length x.2.2]:List aO):List aO)[k]?=ab v->(pre++(f++(([J aH x.1.seq,J aH x.1.id,J R x.1.cur,J R x.1.off,ae x.2.1 x.1.data.length x.2.2]:List aO)++eI++fg)))[j*5+k]?=ab v:=λk v hk=>by have apn:k<5:=(e5.1 hk).1;rw[o0 ad,o0 ad,j0,wM (by show _<5;omega),show j*5+k -pre.length -f.length=k by omega];exact hk
    have Z:=hid SY;have tM:=hid xo;have u:=hid hx;have s:=hid oD;have wG:=hid M;have T:=hid I;have m:=hid l;have aiU:=hid hdr;clear hx oD M I hdr xo l;go_step;refine ah ?_;refine v4 ?_;refine hE ?_;refine aI (ax (ab ⟨G,(j*5),af⟩)) (cq 235 137 5 (bj 22) (bj 23) aa x3 ay G 0 (L.length) c j ((j*5)) aa aa hlt ad) ?_;refine aI _ (by(refine eC _ _ aa G _ aa _ ((a.aX 0).rangeAt _ _ (λk v hk=>by rw[zV];exact tM k v hk)) Pj aa ay)) ?_;refine bA a #[J aH 0,J aH 0,J R 0,J R 0,ae af 0 0] (λgn bI a=>?_);refine a' a 0 (av #[J aH x.1.seq,J aH x.1.id,J R x.1.cur,J R x.1.off,ae x.2.1 x.1.data.length x.2.2]) (λcc a=>?_);refine an ?_;cases iL with
    |true=>
     refine b' ?_;refine bh a 0 #[J aH x.1.seq,J aH x.1.id,J R x.1.cur,J R x.1.off,ae x.2.1 x.1.data.length x.2.2] ?_;refine bH ((by have h:=Y.out x _ lA a.only;rw[s.out]at h;exact h)) a (λcJ a=>?_) (hr:=by(first|(go_simp;done)|(go_simp;exact U.out _ _)));refine cK ?_;refine pad (j:Int) 1 ((j+1:Nat):Int) ?_;refine bP ?_;go_wp2_with fail;go_roundw;case rel=>exact⟨i,j+1,f++([J aH _,J aH _,J R _,J R _,ae x.2.1 _ x.2.2]:List _),ad,ad,aa,aa,by rw[show(L.take _).filter (λx=>!p x)=(L.take j).filter (λx=>!p x)from by rw[gg,u,tN];simp[s.out]];exact m,by rw[c'];show f.length+5+_=_;omega,by rw[show(L.take _).filter (λx=>!p x)=(L.take j).filter (λx=>!p x)from by rw[gg,u,tN];simp[s.out],wG.out,T.out];have h:ak _ _ _ [aj G (pre++(f++(([J aH x.1.seq,J aH x.1.id,J R x.1.cur,J R x.1.off,ae x.2.1 x.1.data.length x.2.2]:List aO)++eI++fg))).toArray 137]:=a.pick [1];simpa using h⟩
     case measure=>simp[cy]<;>omega
    |false=>
     refine b' ?_;refine bh a 0 #[J aH x.1.seq,J aH x.1.id,J R x.1.cur,J R x.1.off,ae x.2.1 x.1.data.length x.2.2] ?_;refine bH ((by have h:=Y.out x _ lA a.only;rw[s.out]at h;exact h)) a (λc5 a=>?_) (hr:=by(first|(go_simp;done)|(go_simp;exact U.out _ _)));refine mO ?_;refine bh a 0 #[J aH x.1.seq,J aH x.1.id,J R x.1.cur,J R x.1.off,ae x.2.1 x.1.data.length x.2.2] ?_;refine aI _ (cq 235 137 5 _ _ aa x3 ay G 0 _ c i ((i*5)) aa aa ad ad) ?_;refine I2 a 1 (F5 (cs':=(pre++(([J aH x.1.seq,J aH x.1.id,J R x.1.cur,J R x.1.off,ae x.2.1 x.1.data.length x.2.2]:List aO)++(f++(([J aH x.1.seq,J aH x.1.id,J R x.1.cur,J R x.1.off,ae x.2.1 x.1.data.length x.2.2]:List aO)++eI++fg)).drop 5)).toArray) (av #[J aH x.1.seq,J aH x.1.id,J R x.1.cur,J R x.1.off,ae x.2.1 x.1.data.length x.2.2]) aa aa aa (a.aX 1) (by show i*5+5<=_;rw[iG,c',c',c',c',Z];show _<=_+(_+(5+_+_));omega) ay ay (by have e:=CS ([J aH x.1.seq,J aH x.1.id,J R x.1.cur,J R x.1.off,ae x.2.1 x.1.data.length x.2.2]:List aO) pre (f++(([J aH x.1.seq,J aH x.1.id,J R x.1.cur,J R x.1.off,ae x.2.1 x.1.data.length x.2.2]:List aO)++eI++fg)) (by rw[c',c',c'];show 5<=_+(5+_+_);omega);rw[Z]at e;exact e)) (λdK a=>?_);refine b' ?_;refine pad (i:Int) 1 ((i+1:Nat):Int) ?_;refine cK ?_;refine pad (j:Int) 1 ((j+1:Nat):Int) ?_;refine bP ?_;go_wp2_with fail;go_roundw;case rel=>exact⟨i+1,j+1,(f++([J aH x.1.seq,J aH x.1.id,J R x.1.cur,J R x.1.off,ae x.2.1 x.1.data.length x.2.2]:List aO)).drop 5,ad,ad,aa,aa,by rw[(show(L.take _).filter (λx=>!p x)=(L.take j).filter (λx=>!p x)++[x]from by rw[gg,u,tN];simp[s.out]),c',m];rfl,by rw[tP,c'];show f.length+5 -5+_=_;omega,by rw[(show(L.take _).filter (λx=>!p x)=(L.take j).filter (λx=>!p x)++[x]from by rw[gg,u,tN];simp[s.out]),FV,wG,Ud,T];have h:ak _ _ _ [aj G (pre++(([J aH x.1.seq,J aH x.1.id,J R x.1.cur,J R x.1.off,ae x.2.1 x.1.data.length x.2.2]:List aO)++(f++(([J aH x.1.seq,J aH x.1.id,J R x.1.cur,J R x.1.off,ae x.2.1 x.1.data.length x.2.2]:List aO)++eI++fg)).drop 5)).toArray 137]:=a.pick [1];rw[show pre++(([J aH x.1.seq,J aH x.1.id,J R x.1.cur,J R x.1.off,ae x.2.1 x.1.data.length x.2.2]:List aO)++(f++(([J aH x.1.seq,J aH x.1.id,J R x.1.cur,J R x.1.off,ae x.2.1 x.1.data.length x.2.2]:List aO)++eI++fg)).drop 5)=pre++([J aH x.1.seq,J aH x.1.id,J R x.1.cur,J R x.1.off,ae x.2.1 x.1.data.length x.2.2]:List aO)++((f++([J aH x.1.seq,J aH x.1.id,J R x.1.cur,J R x.1.off,ae x.2.1 x.1.data.length x.2.2]:List aO)).drop 5++(eI++fg))from by rw[j0,j0,<-j0 f,List.drop_append_of_le_length (by rw[c'];show 5<=_+5;omega)]]at h;exact h⟩
     case measure=>simp[cy]<;>omega
   .have cN:¬(j:Int)<(L.length:Int):=ad;obtain rfl:j=L.length:=ad;rw[kH]at a l;rw[List.drop_length]at a;have m:=hid l;clear l;go_step;refine ah ?_;refine v4 ?_;refine an ?_;obtain⟨cu,z⟩:=ex ((fT (L.filter (λx=>!p x))++(f++(fT []++fg))).toArray);have H2:cu.size=c*5:=by rw[<-z,iG,c',c',c',I8,m];have:=Qt.out;show _+(_+(0+_))=_;omega
    have hcut:cu.toList.take (i*5)=fT (L.filter (λx=>!p x)):=by rw[<-z,<-m,<-I8];simp
    rw[z]at a;have S:=hid H2;have DW:=hid hcut;clear z H2 hcut;refine hE ?_;refine aI (ae (ab ⟨G,i*5,af⟩) (L.length -i) (c -i)) (afh 235 137 5 (bj 36) (bj 37) aa x3 ay G L.length c i (L.length -i) aa aa ad r.out (by have:=r.out;omega)) ?_;refine adU (C:=λy=>y.size=cu.size/\y.toList.take (i*5)=cu.toList.take (i*5)) a 0 (aeS (sz:=5) aa aY x3 aY aY ay ad (a.aX 0) (by rw[S];have:=r.out;omega)) (λib y Sh a=>?_);refine an ?_;obtain⟨F,H⟩:=Sh;rw[DW]at H;rw[S]at F;replace a:ak _ _ _ [aj G y 137]:=a;have QC:=hid F;have ve:=hid H;clear F H;refine hE ?_;refine aI (ae (ab (⟨G,0,af⟩:bQ)) i c) (qt 235 137 5 (bj 39) (bj 40) aa x3 ay (ab (⟨G,0,af⟩:bQ)) L.length c i aa aa (by have:=r.out;omega)) ?_;refine bP ?_;have V:=a.A9 0 i c 5 (fT (L.filter (λx=>!p x))) ve (by have:=r.out;omega) Q QC;rw[<-m]at V;go_wp2_with fail;go_ret;exact⟨_,by rw[m.out];rfl,V.fM 0⟩
def aeU{o}{a:Act}{w x v n}(ho:o.op=.call {callee:=.invoke x n,args:=#[],argTypes:=#[]})(hx:a.eval x=.iface 137 v)(b:(callMethod (.iface 137 v) n #[]).run aw w=a6 (.enter 408 #[v]) w:=by rfl):(bt a.eval o).run aw w=a6 (.enter 408 #[v]) w:=by have h1:(km 408 #[v]).run _ w=a6 (.enter 408 _) w:=kW Tryz.func408 ay aa _ _;unfold bt;simp only[ho,nD,hx,invoke,ga,jK,jc];simpa using b
def qw:RecM:=(⟨0,0,0,0,[]⟩,af,0)
def jj:List RecM->RecM
 |[]=>qw
 |x::l=>l.foldl (λb y=>if y.1.seq>b.1.seq then y else b) x
def alg l x:jj (l++[x])=if l=[]\/x.1.seq>(jj l).1.seq then x else jj l:=by
 cases l with
 |nil=>rfl
 |cons y l=>grind[jj]
def YA:∀(l),jj l=qw\/jj l∈l:=by
 intro l;cases l with
 |nil=>exact bM aa
 |cons x l=>
  right;show l.foldl _ x∈_
  have key:∀(l:List RecM) x,l.foldl (λb y=>if y.1.seq>b.1.seq then y else b) x=x\/l.foldl (λb y=>if y.1.seq>b.1.seq then y else b) x∈l:=by
   intro l;induction l with
   |nil=>simp
   |cons y l a=>
    intro x;rw[tO];rcases a (if y.1.seq>x.1.seq then y else x)with h|h
    .rw[h];split;·simp
     .simp
    .grind
  grind
def adw(x:RecM)w:
 aD aw 408 #[av #[J aH x.1.seq,J aH x.1.id,J R x.1.cur,J R x.1.off,ae x.2.1 x.1.data.length x.2.2]] w λe w'=>e=aB (J aH x.1.seq)/\ar w w':=by
 go_enter Tryz.func408,ntmps408;have a:=bc w;go_step;refine ah ?_;refine bG a (av _) (λb w1 a=>?_);refine cK ?_;refine pl a 0 0 ?_;refine bP ?_;go_wp2_with fail;go_ret;exact⟨aa,a.only⟩
def aop A c L w(cz:L.length<=1073741824)(hr:Row 0 w A L.length c 137 5 (fT L)):
 aD aw 214 #[ae A L.length c] w λe w'=>e=aB (bm #[av #[J aH (jj L).1.seq,J aH (jj L).1.id,J R (jj L).1.cur,J R (jj L).1.off,ae (jj L).2.1 (jj L).1.data.length (jj L).2.2],ai (decide (0<L.length))])/\ar w w':=by
 have s:aE (∀W,ar w W->Row 0 W A _ c _ 5 _):=hid (λW g=>I1 hr g);clear hr;obtain⟨gN,hbl⟩:=ex (jj L);obtain⟨lb,n⟩:=ex (decide (0<L.length));rw[hbl,n];have B:=hid n;have z:=hid hbl;clear n hbl;go_enter func214,ntmps214;have a:=bc w;go_step;refine ah ?_;refine bA a #[J _ 0,J _ 0,J _ 0,J _ 0,ae _ 0 0] (λp w1 a=>?_);refine en ?_;refine bA a #[J aH 0,J aH 0,J R 0,J R 0,ae af 0 0] (λq I a=>?_);refine ah ?_;refine v3 ?_;refine an ?_;replace a:ak _ _ _ [aj q #[J _ (jj []).1.seq,J _ (jj []).1.id,J R (jj []).1.cur,J _ (jj []).1.off,ae (jj []).2.1 (jj []).1.data.length (jj []).2.2] 137,aj p #[J aH qw.1.seq,J _ qw.1.id,J _ qw.1.cur,J _ qw.1.off,ae qw.2.1 qw.1.data.length qw.2.2] 137]:=a;go_wp2_with fail;go_loopw [9] (λo wr=>∃j:Nat,j<=L.length/\o=J R (j:Int)/\ak w (λ_=>False) wr [aj q #[J aH (jj (L.take j)).1.seq,J aH (jj (L.take j)).1.id,J R (jj (L.take j)).1.cur,J R (jj (L.take j)).1.off,ae (jj (L.take j)).2.1 (jj (L.take j)).1.data.length (jj (L.take j)).2.2] 137,aj p #[J aH qw.1.seq,J aH qw.1.id,J R qw.1.cur,J R qw.1.off,ae qw.2.1 qw.1.data.length qw.2.2] 137]) (λo wr=>L.length -(cy o).toNat);case atStart=>exact⟨0,cF _,aa,a⟩
 case round=>
  clear a;obtain⟨j,H,rfl,a⟩:=hrel;by_cases hlt:j<L.length
  .have E:(j:Int)<(L.length:Int):=ad;obtain⟨x,hx⟩:∃x,L[j]?=ab x:=⟨_,cC hlt⟩;obtain⟨l,cur,t,D,_,_,_,_⟩:=(s.out _ a.only).blk ad;have C:=hid (Uc L j x hx);have u:L.take (j+1)=L.take j++[x]:=by rw[gg,hx];rfl
   obtain⟨b,hb⟩:=ex (jj (L.take j));rw[hb]at a;have f:aE (jj (L.take _)=if j=0\/x.1.seq>b.1.seq then x else b):=hid (by rw[u,alg,hb];congr 1;rw[eq_iff_iff];refine or_congr_left ⟨λh=>?_,λh=>by rw[h];rfl⟩;have:=congrArg vk h;rw[nJ,l4]at this;omega);have r:=hid t;clear hx D t u hb;go_step;refine ah ?_;refine cK ?_;refine aI (ax (ab ⟨l,(j*5),af⟩)) (cq 235 137 5 (bj 7) (bj 9) aa x3 ay l 0 (L.length) c j ((j*5)) (by show ae A _ _=_;rw[r]) aa hlt ad) ?_;refine aI _ (by(refine eC 137 _ aa l _ aa _ (Row.range (s _ a.only) r (λi v hi=>C i v hi)) Pj aa ay)) ?_;refine bA a #[J _ 0,J _ 0,J _ 0,J _ 0,ae _ 0 0] (λG K a=>?_);refine ag ?_;refine a' a 0 (av _) (λM a=>?_);refine an ?_;by_cases m:j=0
   .have d:(j:Int)=0:=ad;refine cx ?_;refine bN a [] (λ_ _=>a1) (λ_ _=>emp) (λ_=>[]) (λ_=>[]) (λ_=>[]) [0,1,2] (λF=>?_);refine aK ?_;refine aN (ai az) (λ_ _ _=>by(go_simp;try simp[d])) ?_;refine aK ?_;iterate 7 refine ds ?_
    refine gZ (ai az) ?_;refine bU λN a=>?_;refine ah ?_;refine bh a 0 #[J aH x.1.seq,J aH x.1.id,J R x.1.cur,J R x.1.off,ae x.2.1 x.1.data.length x.2.2] ?_;refine a' a 1 (av _) (λO a=>?_);refine an ?_;have y:=hid m;clear m d;refine ah ?_;refine pad (j:Int) 1 ((j+1:Nat):Int) ?_;refine bP ?_;go_wp2_with fail;go_roundw;case rel=>exact⟨j+1,ad,aa,by rw[f,if_pos (bM y.out)];exact a.pick [1,2]⟩
    case measure=>simp[cy]<;>omega
   .have d:¬(j:Int)=0:=ad;obtain⟨dB,hcb⟩:=ex (decide (x.1.seq>b.1.seq));have k:=hid hcb;clear hcb;refine cx ?_;refine bN a [5,8] (λi _=>match i with|5=>J aH x.1.seq|8=>J aH b.1.seq|_=>a1) (λ_ _=>emp) (λ_=>[]) (λ|3=>[0]|6=>[1]|_=>[]) (λ_=>[]) [0,1,2,8,11] (λF=>?_);refine aK ?_;refine aN (ai ao) (λ_ _ _=>by(go_simp;try simp[d])) ?_;refine aK ?_;refine eI 0 #[J aH x.1.seq,J aH x.1.id,J R x.1.cur,J R x.1.off,ae x.2.1 x.1.data.length x.2.2] ?_;refine aK ?_;refine dD (λ_ _ _=>adw x _) ?_ (hr:=by(intro _;exact aeU aa aa));refine eI 0 #[J aH b.1.seq,J aH b.1.id,J R b.1.cur,J R b.1.off,ae b.2.1 b.1.data.length b.2.2] ?_;refine aK ?_;refine dD (λ_ _ _=>adw b _) ?_ (hr:=by(intro _;exact aeU aa aa));refine aN (ai dB) (λ_ _ _=>by(have h:=k.out;go_simp;try simp[h])) ?_;refine gZ (ai dB) ?_;refine bU λP a=>?_;replace a:=a.drop 3;replace a:=a.drop 3;cases dB with
    |true=>
     refine ah ?_;refine bh a 0 #[J aH x.1.seq,J aH x.1.id,J R x.1.cur,J R x.1.off,ae x.2.1 x.1.data.length x.2.2] ?_;refine a' a 1 (av _) (λQ a=>?_);refine ah ?_;refine pad (j:Int) 1 ((j+1:Nat):Int) ?_;refine bP ?_;go_wp2_with fail;go_roundw;case rel=>exact⟨j+1,ad,aa,by rw[f,if_pos (b8 (of_decide_eq_true k))];exact a.pick [1,2]⟩
     case measure=>simp[cy]<;>omega
    |false=>
     refine ah ?_;refine pad (j:Int) 1 ((j+1:Nat):Int) ?_;refine bP ?_;go_wp2_with fail;go_roundw;case rel=>exact⟨j+1,ad,aa,by rw[f,if_neg (λh=>h.elim m (of_decide_eq_false k))];exact a.pick [1,2]⟩
     case measure=>simp[cy]<;>omega
  .have E:¬(j:Int)<(L.length:Int):=ad;obtain rfl:j=L.length:=ad;rw[kH,z]at a;go_step;refine ah ?_;refine en ?_;refine bh a 0 #[J aH gN.1.seq,J aH gN.1.id,J R gN.1.cur,J R gN.1.off,ae gN.2.1 gN.1.data.length gN.2.2] ?_;refine v2 ?_;refine aI (ai lb) (by(have h:=B.out;first|(go_simp;done)|(go_simp;rw[<-h];done)|(go_simp;rw[<-h];simp))) ?_;refine a' a 1 (av _) (λS a=>?_);refine bP ?_;go_wp2_with fail;refine dp (v:=_) (mL aa aa aa (a.aX 1) ay ay) aa (⟨aa,a.only⟩)
def ar6(x:RecM)id B w(hb:aU w B #[J aH id] 42):
 aD aw 217 #[av #[J aH x.1.seq,J aH x.1.id,J R x.1.cur,J R x.1.off,ae x.2.1 x.1.data.length x.2.2],ax (ab ⟨B,0,af⟩)] w λe w'=>e=aB (ai (decide (x.1.id≠id)))/\ar w w':=by
 obtain⟨d,b⟩:=ex (decide (x.1.id≠id));have c:=hid b;rw[b];clear b;go_enter Tryz.func217,ntmps217;have a:=bc w;go_step;refine ah ?_;refine bG a (av _) (λf w1 a=>?_);refine cK ?_;refine pl a 0 1 ?_;refine iL hb a.only ?_;refine aI (ai d) (by(have h:=c.out;go_simp;rw[<-h];simp[bne,BEq.beq])) ?_;refine bP ?_;go_wp2_with fail;go_ret;exact⟨aa,a.only⟩
def at5{L u}(h:u∈fT L):u.oneCell'=true:=by obtain⟨x,_,hx⟩:=List.mem_flatMap.1 h;simp only[gF,fQ,or_false]at hx;rcases hx with rfl|rfl|rfl|rfl|rfl<;>rfl
def Row.cells{w A}{n c e sz:Nat}{xs}(h:Row 0 w A n c e sz xs):Cells w sz A n xs:=by
 refine⟨h.1,λhn=>?_⟩;obtain⟨g,cur,rfl,hb,h1,d,f,b⟩:=h.blk hn;refine⟨_,rfl,λj u a=>?_⟩;rw[nL,jt];refine hb.cell j ?_;rw[<-b,List.getElem?_take]at a;split at a;·grind
 .grind
def alZ A c L w(cz:L.length<=1073741824)(hr:Row 0 w A L.length c 137 5 (fT L))(f:L.length=0->A=af)(hc0:L.length=0->c=0):
 aD aw 216 #[ae A L.length c] w λe w'=>∃b d,e=aB (ae b L.length d)/\Row w.heap.size w' b L.length d 137 5 (fT L)/\ar w w':=by
 by_cases n:L.length=0;·have hnil:=j2 n;subst hnil;have o:=f aa;subst o;obtain rfl:=hc0 aa;go_enter Tryz.func216,Tryz.ntmps216;have a:=bc w;go_step;refine ah ?_;refine cK ?_;refine pk (ai az) ?_;refine ah ?_;refine ag ?_;refine an ?_;go_wp2_with fail;go_ret;exact⟨_,0,aa,Row.nil _ _ _ _,a.only⟩
 .obtain⟨s,cur,rfl,p,_,_,_,_⟩:=hr.blk ad;have j:aE (∀W,ar w W->Row 0 W _ _ c _ 5 _):=hid (λW g=>I1 hr g);clear hr p f hc0;go_enter Tryz.func216,Tryz.ntmps216;have a:=bc w;go_step;refine ah ?_;refine cK ?_;refine pk (ai ao) ?_;refine ah ?_;refine fC a #[] 137 (λr w1 a=>?_);refine ag ?_;have k:ak _ _ _ [bk _ 0 0 _ 5 []]:=a.A9 0 0 0 5 [] aa (b4 _) (cF _) aa;refine lZ (m:=_) k 0 56 (by have h:=j.out _ a.only;exact Row.cells h) (λu q=>at5 q) (λi l t a=>?_) (hby:=by omega);refine bP ?_;rw[jt,lK]at a;go_wp2_with fail;go_ret;exact⟨i,l,aa,(a.fresh 0).row,a.only⟩
def xB(id:Int)(L:List RecM):RecM×Bool:=(jj (L.filter (λx=>!decide (x.1.id≠id))),decide (0<(L.filter (λx=>!decide (x.1.id≠id))).length))
def adr id A c L w(cz:L.length<=1073741824)(hr:Row 0 w A L.length c 137 5 (fT L))(m:L.length=0->A=af)(hc0:L.length=0->c=0)(p:∀x∈L,bX w x.2.1 x.1.data/\x.1.data.length<=140737488355328):
 aD aw 133 #[J aH id,ae A L.length c] w λe w'=>∃d k,e=aB (bm #[av (recC (xB id L).1.1 d k),ai (xB id L).2])/\cf w w' (cg d k (xB id L).1.1.data):=by
 obtain⟨f,l⟩:=ex (L.filter (λx=>!decide (x.1.id≠id)));have S:f.length<=L.length:=aF;obtain⟨b,hb⟩:=ex (jj f);obtain⟨lb,r⟩:=ex (decide (0<f.length))
 have jx:∀W,ar w W->bX W _ b.1.data:=λW g=>by
  rcases YA f with h|h;·rw[hb]at h;rw[h];exact bX.nil
  .rw[hb,<-l]at h;exact(p b ((List.mem_filter.1 h).1)).1.aG g
 have hbl:b.1.data.length<=140737488355328:=by
  rcases YA f with h|h;·rw[hb]at h;rw[h];exact cF _
  .grind
 have n:xB id L=(b,lb):=by grind[xB]
 rw[n];have t:=hid (λW g=>alZ A c L W cz (I1 hr g) m hc0)
 have y:aE (∀W aJ c2 B,Row 0 W aJ _ c2 _ 5 _->aU W B _ 42->¬eb aJ B->aD _ _ #[ae aJ _ c2,dC (ed 217) #[] _] W λe w'=>∃d,e=aB _/\Turned W w' _ _):=hid (λW aJ c2 B h hb2 hn=>by have q:=at3 aJ c2 _ #[ax _] L (λx=>decide _) W cz h (kW Tryz.func217 ay aa) (λx C _ o=>ar6 x id B C (o.heap hb2 hn));rw[l]at q;exact q);have u:aE (∀W,ar w W->aD _ 65 _ W λe w'=>∃d k,e=aB _/\e6 _ w' d k _/\ar W w'):=hid (λW g=>(wZ _ b.2.2 _ W (jx W g) hbl).mono (λe w' ⟨d,k,h1,E,F⟩=>⟨d,k,h1,Row.nZ E,F⟩));have z:=hid (λW aJ c2 h=>by have q:=aop aJ c2 f W ad h;rw[hb,r]at q;exact q);clear hr p m hc0 l hb r jx n;go_enter func133,ntmps133;have a:=bc w;go_step;refine ah ?_;refine bG a (J _ id) (λN w1 a=>?_);refine bA a #[J _ 0,J _ 0,J _ 0,J _ 0,ae _ 0 0] (λO U a=>?_);refine cK ?_;refine aP (t.out _ a.only) ?_;rintro e V ⟨K,Q,rfl,G,g⟩;replace a:=a.k9 g G;refine aQ ?_;refine ag ?_;refine aP (y _ _ _ _ (a.atR 0) (a.aX 2) (λh=>a.ne (i:=0) (j:=2) aa aa bf _ h aa)) ?_;rintro e X ⟨M,rfl,H⟩;replace a:=a.ek 0 H;refine aQ ?_;refine bH (z _ _ _ (a.atR 0)) a (λY a=>?_);refine v3 ?_;refine bA a #[J _ 0,J _ 0,J _ 0,J _ 0,ae _ 0 0] (λP Z a=>?_);refine a' a 0 (av _) (λdK a=>?_);refine cK ?_;refine pl a 0 4 ?_;refine aP (u _ a.only) ?_;rintro e dz ⟨s,D,rfl,I,g⟩;replace a:=a.jE g I;refine aQ ?_;refine ag ?_;refine a' a 1 (ae _ _ _) (λeY a=>?_);refine ah ?_;refine bh a 1 #[J aH b.1.seq,J aH b.1.id,J R b.1.cur,J R b.1.off,ae s b.1.data.length D] ?_;refine ag ?_;refine a' a 3 (av _) (λT a=>?_);refine bP ?_;go_wp2_with fail;refine dp (v:=_) (mL aa aa aa (a.aX 3) ay ay) aa (⟨_,_,aa,a.fresh 0⟩)
def iZ(size bound:Nat):Nat:=(bound+43)/size+1
def avg{size bound}(h:1<=size):bound+44<=iZ size bound*size:=by unfold iZ;have h1:=QV (bound+43) size;have a:=KK (bound+43) h;rw[Nat.succ_mul,Nat.mul_comm _ _];omega
def vS(d:dn)(bound:Nat):Nat:=iZ d.size bound*d.size
def nj(d:dn)(first bound i:Nat):Nat:=(first+i*iZ d.size bound)*d.size
structure jg (d:dn) (first bound:Nat):Prop where
 dev:dv d
 eF:1<=bound
 eV:bound<=65536
 fits:first+2*iZ d.size bound<=d.cnt
def jg.room{d first bound}(h:jg d first bound){i}(hi:i<=1):nj d first bound i+vS d bound<=d.bytes.length:=by unfold nj vS;rw[<-Nat.add_mul,h.dev.len];refine o2 _ ?_;have:=h.fits;grind[Nat.le_one_iff_eq_zero_or_eq_one]
def jg.small{d first bound}(h:jg d first bound):d.bytes.length<=1048576/\d.cnt<=1048576/\d.size<=1048576:=by have h1:=h.dev.small;have a:=h.dev.kz;have b:=h.dev.sS;have c:d.cnt<=d.cnt*d.size:=Nat.le_mul_of_pos_right _ a;have e:d.size<=d.cnt*d.size:=Hj _ b;rw[h.dev.len];omega
def acP(size bound:Nat)(h1:1<=size)(f:1<=bound)(g:bound<=65536)w:
 aD aw 114 #[J R (size:Int),J R (bound:Int)] w λe w'=>e=aB (J R (iZ size bound:Int))/\ar w w':=by
 obtain⟨q,a⟩:=ex ((bound+43)/size);have i:q<=bound+43:=by rw[<-a];exact yt _ _
 have c:=hid a;have e:iZ size bound=q+1:=by rw[iZ,a]
 rw[e];clear a e;have d:aE (∀W,aD aw 199 #[J R (bound:Int)] W λe w'=>e=aB (J R ((bound+44:Nat):Int))/\ar W w'):=hid (λW=>by have h:=aeL (bound:Int) W ad;grind[kf]);go_enter func114,ntmps114;have b:=bc w;go_step;refine ah ?_;refine cK ?_;refine bu (ai ao) ?_;refine v2 ?_;refine bu (ai ao) ?_;refine v3 ?_;refine bu (ai ao) ?_;refine cK ?_;refine bH (d.out _) b (λw1 b=>?_);refine lH _ 1 ((bound+43:Nat):Int) ?_;refine ag ?_;refine aI _ (Ac _ _ _ _ aa _ _ q aa aa h1 c ad) ?_;refine pad _ 1 ((q+1:Nat):Int) ?_;refine bP ?_;go_wp2_with fail;go_ret;exact⟨aa,b.only⟩
def acN B m d(first bound)w(c:Has w (aL B m d))(b:jg d first bound):
 aD aw 206 #[av #[ax (ab ⟨B,0,af⟩),J R (first:Int),J R (bound:Int)]] w λe w'=>e=aB (J R (iZ d.size bound:Int))/\ar w w':=by
 have f:=hid c;clear c;go_enter func206,ntmps206;have a:=bc w;go_step;refine ah ?_;refine bG a (av #[ax (ab ⟨B,0,af⟩),J R (first:Int),J R (bound:Int)]) (λg w1 a=>?_);refine iB ?_;refine bN a [2,5] (λi _=>match i with|2=>J R (d.size:Int)|5=>J R (iZ d.size bound:Int)|_=>a1) (λ_ _=>emp) (λ_=>[]) (λ|1=>[0]|4=>[0]|_=>[]) (λ_=>[]) [0,3,6] (λh=>?_);refine aK ?_;refine dl 0 0 ?_;refine dD (λ_ _ a=>w4 B m d _ (f.out.aG a.only).dev b.dev) ?_;refine aK ?_;refine dl 0 2 ?_;refine dD (λ_ _ _=>acP _ _ b.dev.kz b.eF b.eV _) ?_;refine aK ?_;refine bU λj a=>?_;replace a:=a.drop 1;replace a:=a.drop 1;go_wp2_with fail;go_ret;exact⟨aa,a.only⟩
def aqT B m d(first bound)w(c:Has w (aL B m d))(b:jg d first bound):
 aD aw 128 #[av #[ax (ab ⟨B,0,af⟩),J R (first:Int),J R (bound:Int)]] w λe w'=>e=aB (J R 0)/\ar w w':=by
 obtain⟨hb1,hb2,hb3⟩:=b.small;have k:=b.fits;obtain⟨n,hn⟩:=ex (iZ d.size bound);have o:1<=n:=by rw[<-hn];exact zY (cF _)
 rw[hn]at k;have j:aE (∀W,ar w W->aD aw 206 #[av #[ax (ab ⟨B,0,af⟩),J R (first:Int),J R (bound:Int)]] W λe w'=>e=aB (J R (n:Int))/\ar W w'):=hid (λW g=>by have h:=acN B m d first bound W (c.aG g) b;rw[hn]at h;exact h);have f:=hid c;clear c hn;go_enter func128,ntmps128;have a:=bc w;go_step;refine ah ?_;refine bG a (av #[ax (ab ⟨B,0,af⟩),J R (first:Int),J R (bound:Int)]) (λl w1 a=>?_);refine en ?_;refine bh a 0 #[ax (ab ⟨B,0,af⟩),J R (first:Int),J R (bound:Int)] ?_;refine bH (j _ a.only) a (λq a=>?_);refine cK ?_;refine pl a 0 0 ?_;refine pk (ai ao) ?_;refine cK ?_;refine bu (ai ao) ?_;refine iB ?_;refine bN a [8,14] (λi _=>match i with|8=>J R (d.cnt:Int)|14=>J R (d.cnt:Int)|_=>a1) (λ_ _=>emp) (λ_=>[]) (λ|1=>[0]|5=>[0]|7=>[0]|13=>[0]|16=>[0]|_=>[]) (λ_=>[]) [0,9,15] (λp=>?_);refine aK ?_;refine dl 0 1 ?_;refine aN (ai ao) (λ_ _ _=>by(go_simp;try omega)) ?_;refine bF ?_;refine dl 0 1 ?_;refine aK ?_;refine dl 0 0 ?_;refine dD (λ_ _ a=>Lp B m d _ (f.out.aG a.only).dev b.dev) ?_;refine aN (ai ao) (λ_ _ _=>by(go_simp;try omega)) ?_;refine da ?_;refine dl 0 0 ?_;refine dD (λ_ _ a=>Lp B m d _ (f.out.aG a.only).dev b.dev) ?_;refine aK ?_;refine dl 0 1 ?_;refine aN (J R ((d.cnt -first:Nat):Int)) (λ_ _ _=>qQ 3 (bj 28) (bj 30) 3 aa ((d.cnt:Int)) ((first:Int)) ((d.cnt -first:Nat):Int) aa aa ad ad ad) ?_;refine aK ?_;refine aN (J R ((2*n:Nat):Int)) (λ_ _ _=>nM 3 (.const (J R 2)) (bj 32) 3 aa 2 ((n:Int)) ((2*n:Nat):Int) aa aa ad ad ad) ?_;refine aN (ai ao) (λ_ _ _=>by(go_simp;try omega)) ?_;refine bF ?_;refine bU λr a=>?_;replace a:=a.drop 1;replace a:=a.drop 1;refine ah ?_;refine ag ?_;refine an ?_;go_wp2_with fail;go_ret;exact⟨aa,a.only⟩
def acM B m d(first bound)w(c:Has w (aL B m d))(b:jg d first bound)(i:Nat)(hi:i<=1):
 aD aw 131 #[av #[ax (ab ⟨B,0,af⟩),J R (first:Int),J R (bound:Int)],J R (i:Int)] w λe w'=>e=aB (gI ((nj d first bound i:Int),(vS d bound:Int)))/\ar w w':=by
 obtain⟨hb1,hb2,hb3⟩:=b.small;have u:=b.fits;obtain⟨n,hn⟩:=ex (iZ d.size bound);have C:1<=n:=by rw[<-hn];exact zY (cF _)
 rw[hn]at u;have q:aE (∀W,ar w W->aD aw 206 #[av #[ax (ab ⟨B,0,af⟩),J R (first:Int),J R (bound:Int)]] W λe w'=>e=aB (J R (n:Int))/\ar W w'):=hid (λW g=>by have h:=acN B m d first bound W (c.aG g) b;rw[hn]at h;exact h);have j:=hid c;obtain⟨z,hz⟩:=ex (i*n);have D:z<=n:=by rw[<-hz];exact ea (o2 _ hi) (Nat.le_of_eq (Nat.one_mul _))
 have l:(i:Int)*(n:Int)=(z:Int):=ad;obtain⟨o,ho⟩:=ex ((first+z)*d.size);have hoi:((first+z:Nat):Int)*(d.size:Int)=(o:Int):=ad;obtain⟨f,x⟩:=ex (n*d.size);have k:(n:Int)*(d.size:Int)=(f:Int):=ad;have y:=b.room hi;have bB:nj d first bound i=o:=by grind[nj]
 have bY:vS d bound=f:=by grind[vS]
 rw[bB,bY]at y⊢;have t:=hid l;have s:=hid hoi;have r:=hid k;clear c hn bB bY hz l ho hoi x k;go_enter func131,ntmps131;have a:=bc w;go_step;refine ah ?_;refine bG a (av #[ax (ab ⟨B,0,af⟩),J R (first:Int),J R (bound:Int)]) (λA w1 a=>?_);refine bA a #[J R 0,J R 0] (λp F a=>?_);refine ah ?_;refine bh a 1 #[ax (ab ⟨B,0,af⟩),J R (first:Int),J R (bound:Int)] ?_;refine bH (q _ a.only) a (λG a=>?_);refine iB ?_;refine bN a [8,13,16] (λi _=>match i with|8=>J R (d.size:Int)|13=>J R (d.size:Int)|_=>a1) (λ_=>λ|16=>aj p #[J R (o:Int),J R (f:Int)] 35|_=>emp) (λ|16=>[0]|_=>[]) (λ|1=>[1]|7=>[1]|12=>[1]|_=>[]) (λ_=>[]) [1,10,15,18] (λE=>?_);refine aK ?_;refine dl 0 1 ?_;refine bF ?_;refine aN _ (λ_ _ _=>nM 3 _ _ 3 aa _ _ _ aa aa t ad ad) ?_;refine aN _ (λ_ _ _=>mZ 3 _ _ 3 aa _ _ ((first+z:Nat):Int) aa aa ad ad ad) ?_;refine aK ?_;refine dl 0 0 ?_;refine dD (λ_ _ a=>w4 B m d _ (j.out.aG a.only).dev b.dev) ?_;refine aN _ (λ_ _ _=>nM 3 _ _ 3 aa _ _ _ aa aa s ad ad) ?_;refine bF ?_;refine dl 0 0 ?_;refine dD (λ_ _ a=>w4 B m d _ (j.out.aG a.only).dev b.dev) ?_;refine aN _ (λ_ _ _=>nM 3 _ _ 3 aa _ _ _ aa aa r ad ad) ?_;refine aK ?_;refine gi _ ?_;refine bU λH a=>?_;replace a:=a.drop 1;replace a:=a.drop 1;go_wp2_with fail;refine dp (v:=_) (jd aa _ _ _ _ _ _ _ aa (a.aX 1) Tryz.underlying35 aa ay) aa (⟨aa,a.only⟩)
def xK(L:List RecM):bp:=⟨λb=>∃x∈L,eb x.2.1 b,λw=>∀x∈L,e6 0 w x.2.1 x.2.2 x.1.data,λw w' h a c x hx=>(cg x.2.1 x.2.2 x.1.data).nO w w' (λb hb=>h b ⟨x,hx,hb⟩) (λb hb=>a b ⟨x,hx,hb⟩) (c x hx)⟩
def ak.at0{aq w FX l L r A c}(h:ak aq FX w (xK L::cg A c r.data::l)):ak aq FX w (xK (L++[(r,A,c)])::l):=
 h.star.as 0 aa (xK (L++[(r,A,c)])) (λh x hx=>by
  rcases j3.1 hx with hx|hx;·exact h.1 x hx
  .obtain rfl:x=(r,A,c):=aF;exact h.2.1) (λb ⟨x,hx,hb⟩=>by
  rcases j3.1 hx with hx|hx;·exact bM ⟨x,hx,hb⟩
  .obtain rfl:x=(r,A,c):=aF;exact b8 hb)
def at2 L x:fT (L++[x])=fT L++[J aH x.1.seq,J aH x.1.id,J R x.1.cur,J R x.1.off,ae x.2.1 x.1.data.length x.2.2]:=by grind[fT]
def xM(d:dn)(first bound i:Nat):Option Rec:=rS (nY d (nj d first bound i) (vS d bound))
def Has.only{w w' t F}(h:Has w t)(g:au F w w')(hn:∀b,t.cR b->¬F b):Has w' t:=⟨t.only h.1 h.2 g hn,λb hb=>Nat.lt_of_lt_of_le (h.2 b hb) g.size⟩
def vq(l:List Rec)(o:Option Rec):List Rec:=l++o.toList
def uH(B:Nat)(first bound:Nat)(id:Int)(a d dm b:Nat)(L:List RecM)(A:Option bQ)(c:Nat):bp:=
 bK [aj a #[ax (ab ⟨B,0,af⟩)] 32,aj d #[ax (ab ⟨dm,0,af⟩)] 125,aj dm #[ax (ab ⟨B,0,af⟩),J R (first:Int),J R (bound:Int),J aH id,J aH 1,J aH 0,J aH 0,J R 0,J R 0,ae af 0 0,ai ao] 233,aj b #[ae A L.length c] 235,bk A L.length c 137 5 (fT L),xK L]
def asA B m d(first bound)id(j l dm k i:Nat)L A c w(hs:Has w (uH B first bound id j l dm k L A c))(hv:Has w (aL B m d))(U:∀b,(aL B m d).cR b->¬(uH B first bound id j l dm k L A c).cR b)(p:jg d first bound)(P:d.down=ao)(hi:i<=1)(cz:L.length<=2):
 aD aw 129 #[J R (i:Int),ax (ab ⟨j,0,af⟩),ax (ab ⟨l,0,af⟩),ax (ab ⟨k,0,af⟩)] w λe w'=>e=aB (J R 0)/\∃C,C.map (·.1)=vq (L.map (·.1)) (xM d first bound i)/\∃aJ c2,aE (C.length=0->aJ=A/\c2=c)/\Turned w w' (uH B first bound id j l dm k L A c) (uH B first bound id j l dm k C aJ c2):=by
 obtain⟨hb1,hb2,hb3⟩:=p.small;have Q:=p.room hi;obtain⟨of,G⟩:=ex (nj d first bound i);obtain⟨f,F⟩:=ex (vS d bound);obtain⟨bs,E⟩:=ex (nY d of f);have hbl:bs.length=f:=by rw[<-E];exact xI p.dev ad
 rw[G,F]at Q;obtain⟨y,V⟩:=ex (rS bs);have S:xM d first bound i=y:=by grind[xM]
 rw[S];have jf:aE (∀W,Has W (aL B m d)->aD aw 131 #[av #[ax (ab ⟨B,0,af⟩),J R (first:Int),J R (bound:Int)],J R (i:Int)] W λe w'=>e=aB (av #[J R (of:Int),J R (f:Int)])/\ar W w'):=hid (λW h=>by have q:=acM B m d first bound W h p i hi;rw[G,F]at q;exact q);have Z:aE (∀W,Has W (aL B m d)->aD aw 130 #[c0 B,av #[J R (of:Int),J R (f:Int)]] W λe w'=>∃A c,e=aB (bm #[ae A f c,J R 0])/\cf W w' (cg A c bs)):=hid (λW h=>by have q:=ZU B m d of f W h p.dev P Q;rw[E]at q;exact q);have K:aE (∀W aJ c2,e6 0 W aJ c2 bs->aD aw 132 #[ae aJ f c2] W λe w'=>(∃r,y=ab r/\∃s v,e=aB (bm #[av (recC r s v),J R 0])/\cf W w' (cg s v r.data))\/(y=af/\e=aB (bm #[av Ni,J R 19])/\ar W w')):=hid (λW aJ c2 h=>by have q:=atV aJ c2 bs W ad h.2.2 h.1;rw[hbl,V]at q;exact q);have M:aE (∀W,au (uH B first bound id j l dm k L A c).cR w W->Has W (aL B m d)):=hid (λW g=>Has.only hv g U);clear hv U p P G F E V S hi;go_enter func129,ntmps129;have a:ak w (uH B first bound id j l dm k L A c).cR w [aj j #[ax (ab ⟨B,0,af⟩)] 32,aj l #[ax (ab ⟨dm,0,af⟩)] 125,aj dm #[ax (ab ⟨B,0,af⟩),J R (first:Int),J R (bound:Int),J aH id,J aH 1,J aH 0,J aH 0,J R 0,J R 0,ae af 0 0,ai ao] 233,aj k #[ae A L.length c] 235,bk A L.length c 137 5 (fT L),xK L]:=(ak.start (t:=bK _) hs).kT;go_step;refine ah ?_;refine iB ?_;refine bN a [6,7] (λi u=>match i with|6=>av #[J R (of:Int),J R (f:Int)]|7=>bm #[ae u.A f u.c,J R 0]|_=>a1) (λx=>λ|7=>cg ((x 7).A) ((x 7).c) bs|_=>emp) (λ_=>[]) (λ|0=>[0]|1=>[1]|4=>[2]|_=>[]) (λ|7=>[7]|_=>[]) [0,1,2,3,4,5,12,13] (λx=>?_);refine dl 0 0 ?_;refine dl 0 0 ?_;refine bF ?_;refine eI 0 #[ax (ab ⟨B,0,af⟩),J R (first:Int),J R (bound:Int)] ?_;refine aK ?_;refine dD (λ_ _ a=>jf _ (M _ a.only)) ?_;refine du (λwl Fr a=>(Z _ (M _ a.only)).mono ?_) ?_;·rintro e dA ⟨X,fl,rfl,D⟩;exact⟨{A:=X,c:=fl},aa,a.new _ D⟩
 refine oO ?_;refine bU λw1 a=>?_;generalize (x 7).A=H at a⊢;generalize (x 7).c=N at a⊢;replace a:=a.drop 6;refine b' ?_;refine pk (ai ao) ?_;refine an ?_;cases y with
 |none=>
  have z:aE (∀W aJ c2,e6 0 W aJ c2 bs->aD aw 132 #[ae aJ f c2] W λe w'=>e=aB (bm #[av Ni,J R 19])/\ar W w'):=hid (λW aJ c2 h=>(K W aJ c2 h).mono (λe w' hh=>aF));refine b' ?_;refine bH (z.out _ H N (a.kK 6)) a (λaW a=>?_);refine v3 ?_;refine bA a #[J aH 0,J aH 0,J R 0,J R 0,ae af 0 0] (λY bI a=>?_);refine a' a 0 (av #[J aH 0,J aH 0,J R 0,J R 0,ae af 0 0]) (λcc a=>?_);refine cK ?_;refine pk (ai ao) ?_;refine ah ?_;refine ag ?_;refine an ?_;have o:=a.pk [1,2,3,4,5,6];replace o:ak _ _ _ [uH B first bound id j l dm k L A c]:=o.fv 6;go_wp2_with fail;go_ret;exact⟨aa,L,by simp[vq],A,c,(by first|exact hid (λ_=>⟨aa,aa⟩)|exact hid trivial),o.fM 0⟩
 |some r=>
  have z:aE (∀W aJ c2,e6 0 W aJ c2 bs->aD aw 132 #[ae aJ f c2] W λe w'=>∃s v,e=aB (bm #[av #[J aH r.seq,J aH r.id,J R r.cur,J R r.off,ae s r.data.length v],J R 0])/\cf W w' (cg s v r.data)):=hid (λW aJ c2 h=>(K W aJ c2 h).mono (λe w' hh=>aF));refine b' ?_;refine aP (z.out _ H N (a.kK 6)) ?_;rintro e cJ ⟨n,bq,rfl,D⟩;replace a:=a.new _ D;refine aQ ?_;refine v3 ?_;refine bA a #[J aH 0,J aH 0,J R 0,J R 0,ae af 0 0] (λY c5 a=>?_);refine a' a 0 (av #[J aH r.seq,J aH r.id,J R r.cur,J R r.off,ae n r.data.length bq]) (λdK a=>?_);refine cK ?_;refine pk (ai az) ?_;refine ah ?_;refine pl a 5 0 ?_;refine bh a 0 #[J aH r.seq,J aH r.id,J R r.cur,J R r.off,ae n r.data.length bq] ?_;refine fC a #[J aH r.seq,J aH r.id,J R r.cur,J R r.off,ae n r.data.length bq] 137 (λOK dz a=>?_);refine lZ (m:=1) a 7 56 (aU.cellsOf (m:=1) (a.aX 0) aa) (by intro u T;simp only[gF,fQ,or_false]at T;rcases T with rfl|rfl|rfl|rfl|rfl<;>rfl) (λI O eY a=>?_) (hby:=by omega);refine a' a 6 (ae I (L.length+1) O) (λgQ a=>?_);refine ah ?_;refine ag ?_;refine an ?_;replace a:=a.pk [8,2,3,4,5,6,7];replace a:=a.at0;have bB:fT L++[J aH r.seq,J aH r.id,J R r.cur,J R r.off,ae n r.data.length bq]=fT (L++[(r,n,bq)]):=(at2 L (r,n,bq)).symm;have bY:L.length+1=(L++[(r,n,bq)]).length:=a8;rw[bB,bY]at a;have o:=a.pk [1,2,3,4,5,0];replace o:ak _ _ _ [uH B first bound id j l dm k (L++[(r,n,bq)]) I O]:=o.fv 6;go_wp2_with fail;go_ret;exact⟨aa,L++[(r,n,bq)],by simp[vq],_,_,(by first|exact hid (λh=>absurd h a8)|exact hid trivial|simp[ayt]),o.fM 0⟩
structure oX where
 next:Int
 last:Rec
 has:Bool
def axg:Rec:=⟨0,0,0,0,[]⟩
def Re:List Rec->Rec
 |[]=>axg
 |x::l=>l.foldl (λb y=>if y.seq>b.seq then y else b) x
def y'(id:Int)(l:List Rec):Rec×Bool:=(Re (l.filter (λx=>!decide (x.id≠id))),decide (0<(l.filter (λx=>!decide (x.id≠id))).length))
theorem alf L:(jj L).1=Re (L.map (·.1)):=by
 cases L with
 |nil=>rfl
 |cons x L=>
  show(L.foldl _ x).1=(L.map _).foldl _ x.1;induction L generalizing x with
  |nil=>rfl
  |cons y L a=>
   rw[tO,jM,tO,a];congr 1;split<;>rfl
def adq id L:(xB id L).1.1=(y' id (L.map (·.1))).1/\(xB id L).2=(y' id (L.map (·.1))).2:=by
 have e:(L.map (·.1)).filter (λx=>!decide (x.id≠id))=(L.filter (λx=>!decide (x.1.id≠id))).map (·.1):=by rw[List.filter_map];rfl
 grind[xB,y',alf]
def CX:List Rec->Int
 |[]=>1
 |[a]=>aH.wrap (a.seq+1)
 |a::b::_=>aH.wrap (max a.seq b.seq+1)
def ti(d:dn)(first bound:Nat):List Rec:=vq (vq [] (xM d first bound 0)) (xM d first bound 1)
def qk(d:dn)(first bound:Nat)(id:Int):oX:=⟨CX (ti d first bound),(y' id (ti d first bound)).1,(y' id (ti d first bound)).2⟩
def adJ d(first bound)id:(qk d first bound id).next =CX (ti d first bound):=by rw[qk]
theorem TS d(first bound)id:(qk d first bound id).last=(y' id (ti d first bound)).1:=by rw[qk]
theorem TR d(first bound)id:(qk d first bound id).has=(y' id (ti d first bound)).2:=by rw[qk]
abbrev Mv(B first bound:Nat)(id:Int)(j:oX)(A:Option bQ)(c:Nat):Array Value:=#[ax (ab ⟨B,0,af⟩),J R (first:Int),J R (bound:Int),J aH id,J aH j.next,J aH j.last.seq,J aH j.last.id,J R j.last.cur,J R j.last.off,ae A j.last.data.length c,ai j.has]
def qf(dm B first bound:Nat)(id:Int)(j:oX)(A:Option bQ)(c:Nat):bp:=both (aj dm (Mv B first bound id j A c) 233) (cg A c j.last.data)
def AY{P o}{a:Act}{w}{g n c e sz i:Nat}{xs v ty x}(h:Row 0 w (ab ⟨g,0,af⟩) n c e sz xs)(hv:xs[i]?=ab v)(ho:o.op=.load ty x)(hx:a.eval x=ax (ab ⟨g,i,af⟩))(j:(P.underlying ty).map (λd=>d.isRow)=ab ao):(bt a.eval o).run P w=a6 (c9 v) w:=by
 have hn:0<n:=by
  rcases lL n with b|b;·have h1:=h.1;grind
  .omega
 obtain⟨g2,cur,bY,hb,_,_,_,f⟩:=h.blk hn;grind[fw]
def amP{bs r}(h:rS bs=ab r):r.data.length<=bs.length:=by grind[rS,ta]
theorem aev{d first bound}(a:jg d first bound)r(h:r∈ti d first bound):r.data.length<=140737488355328:=by
 have key:∀i,i<=1->∀r,xM d _ _ i=ab r->r.data.length<=140737488355328:=λi hi r hr=>by have h1:=amP hr;have b:=a.room hi;have c:=a.small;rw[xI a.dev b]at h1;omega
 grind[ti,vq]
def Ji(d:dn)(first bound:Nat):Nat->List Rec
 |0=>[]
 |j+1=>vq (Ji d first bound j) (xM d first bound j)
def afi d(first bound):∀j,(Ji d first bound j).length<=j
 |0=>b4 _
 |j+1=>by have:=afi d first bound j;rw[Ji,vq,c'];cases xM d first bound j<;>simp<;>omega
def aqU B m d(first bound)id w(hs:Has w (aL B m d))(hj:jg d first bound)(cS:d.down=ao):
 aD aw 54 #[c0 B,J R (first:Int),J R (bound:Int),J aH id] w λe w'=>∃dm,e=aB (bm #[ax (ab ⟨dm,0,af⟩),J R 0])/\∃A c,cf w w' (qf dm B first bound id (qk d first bound id) A c):=by
 have jL:=hid (λW g=>aqT B m d _ _ W (hs.aG g) hj);have me:=hs.2;obtain⟨k,qW⟩:=ex (qk d first bound id);have S:=hid qW;rw[qW];clear qW;go_enter func54,ntmps54;have a:=bc w;go_step;refine ah ?_;refine bG a (ax _) (λC w1 a=>?_);refine v2 ?_;refine ah ?_;refine pl a 0 0 ?_;refine v5 ?_;refine bG a (av _) (λo aW a=>?_);refine bA a #[ax _] (λE bI a=>?_);refine a' a 0 (ax _) (λcc a=>?_);refine ah ?_;refine pl a 0 0 ?_;refine v2 ?_;refine bh a 1 #[ax (ab ⟨B,0,af⟩),J R (first:Int),J R (bound:Int)] ?_;refine bH (jL _ a.only) a (λcJ a=>?_);refine cK ?_;refine pk (ai ao) ?_;refine ah ?_;refine bA a #[ae af 0 0] (λz c5 a=>?_);refine ah ?_;refine v2 ?_;refine ah ?_;refine ag ?_;refine an ?_;replace a:=(a.new (xK []) ⟨au.refl _ _,λx hx=>absurd hx fQ,λb ⟨x,hx,_⟩=>absurd hx fQ⟩).new (bk _ 0 0 137 5 []) ⟨au.refl _ _,Row.nil _ _ _ _,λb ⟨_,_,e⟩=>by cases e⟩;replace a:ak w (λ_=>False) c5 [uH B _ _ id C E o z [] af 0]:=(a.pick (l':=[aj C _ 32,aj _ _ 125,aj o _ 233,aj z _ 235,bk af 0 0 137 5 [],xK []]) [5,3,4,2,0,1]).fv 6;go_wp2_with fail;go_loopw [34] (λt wr=>∃(j:Nat) (L:List RecM) (A:Option bQ) (c:Nat),j<=2/\t=J R (j:Int)/\L.map (·.1)=(Ji d first bound j)/\(L.length=0->A=af/\c=0)/\ak w (λ_=>False) wr [uH B first bound id C E o z L A c]) (λt wr=>2 -(cy t).toNat);case atStart=>exact⟨0,[],_,0,ad,rfl,rfl,λ_=>⟨aa,aa⟩,a⟩
 case round=>
  clear a;obtain⟨j,L,A,c,EY,rfl,cz,G,a⟩:=hrel;have w8:L.length<=j:=by have h:=congrArg vk cz;rw[gV]at h;rw[h];exact afi _ _ _ _
  by_cases hlt:j<2
  .have cN:(j:Int)<2:=ad
   have bO:aE (∀W,ar w W->Has W _->(∀b,(uH B first bound id C E o z L A c).cR b->w.heap.size<=b)->aD aw 129 _ W λe w'=>e=aB (J R 0)/\∃s,s.map (·.1)=(Ji d first bound (j+1))/\∃aJ c2,(s.length=0->aJ=af/\c2=0)/\Turned W w' _ (uH B first bound id C E o z s aJ c2)):=hid (λW g h hf=>by have q:=asA B m d _ _ id _ _ _ _ j L A c W h (hs.aG g) (λb hb hb2=>by have h1:=hf b hb2;have F:=me b hb;omega) hj cS ad ad;rw[cz]at q;exact q.mono (λe aW ⟨h1,s,F,aJ,c2,h3,h4⟩=>⟨h1,s,F,aJ,c2,λn=>by have Y:=congrArg vk F;rw[gV,n]at Y;have h6:L.length=0:=(by rw[<-gV (f:=(·.1)),cz];unfold vq at Y;rw[c']at Y;omega);exact⟨(h3 n).1.trans (G h6).1,(h3 n).2.trans (G h6).2⟩,h4⟩));clear cz w8 G;go_step;refine ah ?_;refine ag ?_;refine ah ?_;refine v2 ?_;refine hE ?_;refine aP (bO.out _ a.only (a.has 0) (λb hb=>((a.low _ (List.mem_singleton.2 aa) b hb).2).resolve_right (λh=>h))) ?_;rintro e dK ⟨rfl,s,w7,aJ,c2,qU,bL⟩;replace a:=a.ek 0 bL;refine aQ ?_;refine cK ?_;refine pk (ai ao) ?_;refine ah ?_;refine pad (j:Int) 1 ((j+1:Nat):Int) ?_;refine bP ?_;go_wp2_with fail;go_roundw;case rel=>exact⟨j+1,s,aJ,c2,ad,aa,w7,qU,a⟩
   case measure=>simp[cy]<;>omega
  .have cN:¬(j:Int)<2:=ad;obtain rfl:j=2:=ad;have H:L.map _=ti d _ _:=cz;have jl:∀x∈L,x.1.data.length<=140737488355328:=λx hx=>aev hj _ (by rw[<-H];exact List.mem_map_of_mem hx);have DX:=hid jl;have I:=hid G;have nf:k.next=CX (L.map (·.1)):=by rw[<-S,adJ,H]
   have kN:k.last=(xB id L).1.1/\k.has=(xB id L).2:=⟨by rw[<-S,(adq id L).1,H,TS],by rw[<-S,(adq id L).2,H,TR]⟩;have Xc:=hid nf;have K:=hid kN;clear cz H jl G nf kN;go_step;refine ah ?_;refine bP ?_;replace a:=a.kg;refine ah ?_;refine pl a 3 0 ?_;refine dZ ?_;go_wp2_with fail;go_loopw [46] (λt wr=>∃(q:Nat) (nx:Int),q<=L.length/\t=J R (q:Int)/\(L.length=0->nx=1)/\(q=1->L.length=1->nx=CX (L.map (·.1)))/\ak w (λ_=>False) wr [aj C #[ax (ab ⟨B,0,af⟩)] 32,aj E #[ax (ab ⟨o,0,af⟩)] 125,aj o #[ax (ab ⟨B,0,af⟩),J R (first:Int),J R (bound:Int),J aH id,J aH nx,J aH 0,J aH 0,J R 0,J R 0,ae af 0 0,ai ao] 233,aj z #[ae A L.length c] 235,bk A L.length c 137 5 (fT L),xK L]) (λt wr=>L.length -(cy t).toNat);case atStart=>exact⟨0,1,ad,rfl,λ_=>rfl,λh=>absurd h ad,a⟩
   case round=>
    clear a;obtain⟨q,nx,hq,rfl,lS,oC,a⟩:=hrel;by_cases AG:q<L.length
    .have apD:(q:Int)<(L.length:Int):=ad;obtain⟨x,hx⟩:∃x,L[q]?=ab x:=⟨_,cC AG⟩;obtain⟨D,cur,M,kM,_,_,_,_⟩:=(a.atR 4).blk ad;have dP:=hid (Uc L q x hx);have hx0:q=0->L.length=1->CX (L.map (·.1))=aH.wrap (x.1.seq+1):=λh h1=>by subst h;obtain⟨y,hy⟩:=List.length_eq_one_iff.1 h1;subst hy;injection hx with hx;subst hx;rfl
     have ajN:=hid hx0;have G1:=hid lS;have BG:=hid oC;have cn:=hid M;clear hx kM M lS oC hx0;go_step;refine ah ?_;refine cK ?_;refine aI (ax (ab ⟨D,(q*5),af⟩)) (cq 235 137 5 (bj 44) (bj 46) aa x3 ay D 0 (L.length) c q ((q*5)) (by show ae A _ _=_;rw[cn]) aa AG ad) ?_;refine aI _ (by(refine eC 137 _ aa D _ aa _ (Row.range (a.atR 4) cn (λi v hi=>dP i v hi)) Pj aa ay)) ?_;refine bA a #[J _ 0,J _ 0,J _ 0,J _ 0,ae _ 0 0] (λU8 dz a=>?_);refine ag ?_;refine a' a 0 (av _) (λeY a=>?_);refine an ?_;by_cases q1:q=0
     .have N:(q:Int)=0:=ad;refine cx ?_;refine bN a [] (λ_ _=>a1) (λ_ _=>emp) (λ_=>[]) (λ_=>[]) (λ_=>[]) [0,1,2,3,4,5,6] (λl=>?_);refine aK ?_;refine aN (ai az) (λ_ _ _=>by(go_simp;try simp[N])) ?_;refine aK ?_;iterate 7 refine ds ?_
      refine gZ (ai az) ?_;refine bU λgQ a=>?_;refine ah ?_;refine pl a 2 0 ?_;refine ag ?_;refine pl a 0 0 ?_;refine pk (J aH (aH.wrap (x.1.seq+1))) ?_;refine v2 ?_;refine a' a 3 (J _ _) (λib a=>?_);refine an ?_;have ajt:=hid q1;clear N q1;refine ah ?_;refine pad (q:Int) 1 ((q+1:Nat):Int) ?_;refine bP ?_;go_wp2_with fail;go_roundw;case rel=>exact⟨q+1,_,ad,rfl,λh=>absurd h ad,λ_ h=>(ajN ajt h).symm,a.pick [1,2,3,4,5,6]⟩
      case measure=>simp[cy]<;>omega
     .have N:¬(q:Int)=0:=ad;obtain⟨dB,hcb⟩:=ex (decide (nx<=x.1.seq));have wE:=hid hcb;clear hcb;refine cx ?_;refine bN a [] (λ_ _=>a1) (λ_ _=>emp) (λ_=>[]) (λ|4=>[0]|5=>[2]|8=>[3]|_=>[]) (λ_=>[]) [0,1,2,3,4,5,6] (λl=>?_);refine aK ?_;refine aN (ai ao) (λ_ _ _=>by(go_simp;try simp[N])) ?_;refine bF ?_;refine dl 0 0 ?_;refine dl 0 0 ?_;refine bF ?_;refine dl 0 4 ?_;refine aN (ai dB) (λ_ _ _=>by(have h:=wE.out;first|(go_simp;done)|(go_simp;rw[<-h];done)|(go_simp;simp[<-h]))) ?_;refine gZ (ai dB) ?_;refine bU λjS a=>?_;cases dB with
      |true=>
       refine ah ?_;refine pl a 2 0 ?_;refine ag ?_;refine pl a 0 0 ?_;refine pk (J aH (aH.wrap (x.1.seq+1))) ?_;refine v2 ?_;refine a' a 3 (J _ _) (λkh a=>?_);refine ah ?_;refine pad (q:Int) 1 ((q+1:Nat):Int) ?_;refine bP ?_;go_wp2_with fail;go_roundw;case rel=>exact⟨q+1,_,ad,rfl,λh=>absurd h ad,λh=>absurd h ad,a.pick [1,2,3,4,5,6]⟩
       case measure=>simp[cy]<;>omega
      |false=>
       refine ah ?_;refine pad (q:Int) 1 ((q+1:Nat):Int) ?_;refine bP ?_;go_wp2_with fail;go_roundw;case rel=>exact⟨q+1,nx,ad,rfl,λh=>absurd h ad,λh=>absurd h ad,a.pick [1,2,3,4,5,6]⟩
       case measure=>simp[cy]<;>omega
    .have apD:¬(q:Int)<(L.length:Int):=ad;obtain rfl:q=L.length:=ad;go_step;refine ah ?_;refine bP ?_;by_cases F:L.length=2
     .have aov:(L.length:Int)=2:=ad;obtain⟨r,df,rfl⟩:∃r df,L=[r,df]:=by rcases L with _|⟨r,_|⟨df,_|⟨br,L⟩⟩⟩<;>first|exact⟨_,_,aa⟩|(simp at F)
      obtain⟨D,cur,M,_,_,_,_,_⟩:=(a.atR 4).blk (Nat.zero_lt_succ _);subst M;have w8:=b4 2;skip;refine ah ?_;refine pl a 3 0 ?_;refine ag ?_;refine pk (ai az) ?_;refine cx ?_;refine bN a [13] (λ_ _=>a1) (λ_=>λ|13=>aj o #[ax (ab ⟨B,0,af⟩),J R (first:Int),J R (bound:Int),J aH id,J aH (aH.wrap (max r.1.seq df.1.seq+1)),J aH 0,J aH 0,J R 0,J R 0,ae af 0 0,ai ao] 233|_=>emp) (λ|13=>[2]|_=>[]) (λ|0=>[1]|1=>[3]|4=>[4]|5=>[3]|8=>[4]|_=>[]) (λ_=>[]) [0,1,3,4,5,19] (λl=>?_);refine dl 0 0 ?_;refine dl 0 0 ?_;refine aN _ (λ_ _ _=>cq 235 137 5 _ _ aa x3 ay D 0 2 c 0 0 aa aa bf aa) ?_;refine aK ?_;refine aN _ (λ_ _ a=>AY (a.atR 0) (i:=0) aa aa aa ay) ?_;refine dl 0 0 ?_;refine aN _ (λ_ _ _=>cq 235 137 5 _ _ aa x3 ay D 0 2 c 1 5 aa aa bf aa) ?_;refine aK ?_;refine aN _ (λ_ _ a=>AY (a.atR 0) (i:=5) aa aa aa ay) ?_;refine aN _ (λ_ _ _=>by(go_simp;try with_reducible rfl)) ?_;refine gZ (J aH (aH.wrap (max r.1.seq df.1.seq+1))) ?_;refine bF ?_;refine gi _ ?_;refine bU λlf a=>?_;have hM:aH.wrap (max r.1.seq df.1.seq+1)=k.next:=by rw[Xc];rfl
      have R4:([r,df]).length<=1073741824:=by show 2<=_;omega
      have T:aE (∀W,Row 0 W _ _ c 137 5 _->(xK _).p W->aD _ 133 _ W λe w'=>∃O U,e=aB (bm #[av #[J aH _,J aH _,J R _,J R _,ae O _ U],ai _])/\cf W w' _):=hid (λW h hd=>by have q:=adr id _ c _ W R4 h (λn=>(I n).1) (λn=>(I n).2) (λx hx=>⟨(hd x hx).1,DX x hx⟩);rw[<-K.1,<-K.2]at q;exact q);refine cx ?_;refine bN a [4,10,13] (λi u=>match i with|4=>bm #[av #[J aH k.last.seq,J aH k.last.id,J R k.last.cur,J R k.last.off,ae u.A k.last.data.length u.c],ai k.has]|_=>a1) (λl=>λ|4=>cg ((l 4).A) ((l 4).c) k.last.data|10=>aj o #[ax (ab ⟨B,0,af⟩),J R (first:Int),J R (bound:Int),J aH id,J aH (aH.wrap (max r.1.seq df.1.seq+1)),J aH k.last.seq,J aH k.last.id,J R k.last.cur,J R k.last.off,ae (l 4).A k.last.data.length (l 4).c,ai ao] 233|13=>aj o #[ax (ab ⟨B,0,af⟩),J R (first:Int),J R (bound:Int),J aH id,J aH (aH.wrap (max r.1.seq df.1.seq+1)),J aH k.last.seq,J aH k.last.id,J R k.last.cur,J R k.last.off,ae (l 4).A k.last.data.length (l 4).c,ai k.has] 233|_=>emp) (λ|10=>[5]|13=>[16]|_=>[]) (λ|0=>[1]|1=>[1]|3=>[2]|4=>[3,4]|_=>[]) (λ|4=>[4]|10=>[4]|13=>[4]|_=>[]) [0,1,2,3,4,10,19] (λl=>?_);refine dl 0 0 ?_;refine dl 0 0 ?_;refine aK ?_;refine dl 0 0 ?_;refine du (λwl Fr a=>(T _ (a.atR 0) (a.at 1)).mono ?_) ?_;·rintro e dA ⟨Q,X,rfl,Z⟩;exact⟨{A:=Q,c:=X},aa,a.new _ Z⟩
      refine oO ?_;refine gi _ ?_;refine bF ?_;refine gi _ ?_;refine bU λmr a=>?_;generalize (l 4).A=P at a⊢;generalize (l 4).c=V at a⊢;refine ah ?_;refine pl a 1 0 ?_;refine dZ ?_;replace a:=(a.pick (l':=[aj o _ 233,cg P V _]) [6,5]).star;rw[hM]at a;go_wp2_with fail;go_ret2;exact⟨_,aa,_,_,a.fresh 0⟩
     .have aov:¬(L.length:Int)=2:=ad;refine ah ?_;refine pl a 3 0 ?_;refine ag ?_;refine bu (ai ao) ?_;refine an ?_
      have hM:nx=k.next:=by
       rw[Xc];rcases lL L.length with n|n;·rw[lS n,j2 n];rfl
       .exact oC ad ad
      have R4:(L).length<=1073741824:=ad;have T:aE (∀W,Row 0 W A _ c 137 5 _->(xK L).p W->aD _ _ _ W λe w'=>∃O U,e=aB (bm #[av #[J _ _,J _ _,J _ _,J _ _,ae O _ U],ai _])/\cf W w' _):=hid (λW h hd=>by have q:=adr id A c L W R4 h (λn=>(I n).1) (λn=>(I n).2) (λx hx=>⟨(hd x hx).1,DX x hx⟩);rw[<-K.1,<-K.2]at q;exact q);refine cx ?_;refine bN a [4,10,13] (λi u=>match i with|4=>bm #[av #[J aH k.last.seq,J aH k.last.id,J R k.last.cur,J R k.last.off,ae u.A k.last.data.length u.c],ai k.has]|_=>a1) (λl=>λ|4=>cg ((l 4).A) ((l 4).c) k.last.data|10=>aj o #[ax (ab ⟨B,0,af⟩),J R (first:Int),J R (bound:Int),J aH id,J aH nx,J aH k.last.seq,J aH k.last.id,J R k.last.cur,J R k.last.off,ae (l 4).A k.last.data.length (l 4).c,ai ao] 233|13=>aj o #[ax (ab ⟨B,0,af⟩),J R (first:Int),J R (bound:Int),J aH id,J aH nx,J aH k.last.seq,J aH k.last.id,J R k.last.cur,J R k.last.off,ae (l 4).A k.last.data.length (l 4).c,ai k.has] 233|_=>emp) (λ|10=>[2]|13=>[16]|_=>[]) (λ|0=>[1]|1=>[1]|3=>[3]|4=>[4,5]|_=>[]) (λ|4=>[4]|10=>[4]|13=>[4]|_=>[]) [0,1,3,4,5,10,19] (λl=>?_);refine dl 0 0 ?_;refine dl 0 0 ?_;refine aK ?_;refine dl 0 0 ?_;refine du (λwl Fr a=>(T _ (a.atR 0) (a.at 1)).mono ?_) ?_;·rintro e dA ⟨Q,X,rfl,Z⟩;exact⟨{A:=Q,c:=X},aa,a.new _ Z⟩
      refine oO ?_;refine gi _ ?_;refine bF ?_;refine gi _ ?_;refine bU λn1 a=>?_;generalize (l 4).A=P at a⊢;generalize (l 4).c=V at a⊢;refine ah ?_;refine pl a 1 0 ?_;refine dZ ?_;replace a:=(a.pick (l':=[aj _ _ 233,cg P V _]) [6,5]).star;rw[hM]at a;go_wp2_with fail;go_ret2;exact⟨_,aa,_,_,a.fresh 0⟩
def aor(n:Nat)w(h1:n<=140737488355328):
 aD aw 185 #[ae af 0 0,J R (n:Int)] w λe w'=>∃A c,e=aB (ae A 0 c)/\Row w.heap.size w' A 0 c 5 1 []/\ar w w':=
 (Z7 n w h1).mono (λe w' ⟨v,h1,a,b⟩=>by
  rcases a.2 with⟨rfl,_⟩|⟨g,cap,cur,rfl,_⟩;·grind
  .grind)
def alm{P o}{a:Act}{w}t(x y)d(ho:o.op=.binOp .rem t x y d)(p:Nat)(hx:a.eval x=J aH (p:Int))(c:a.eval y=J aH 2):
 (bt a.eval o).run P w=a6 (c9 (J aH ((p%2:Nat):Int))) w:=by
 have b:(p:Int).tmod 2=((p%2:Nat):Int):=aY;unfold bt;simp[ho,hx,c,eqGuard,binOp,Op.intDiv,b]
def al9 w:
 aD aw 93 #[ae af 0 0] w λe w'=>∃A c,e=aB (ae A 0 c)/\Row w.heap.size w' A 0 c 5 1 []/\ar w w':=by
 go_enter func93,ntmps93;have a:=bc w;go_step;refine ah ?_;refine ag ?_;refine ah ?_;refine ag ?_;refine ah ?_;refine v3 ?_;refine an ?_;go_wp2_with fail;go_loopw [3,11] (λd b wr=>d=J R 0/\b=J R 0/\ak w (λ_=>False) wr []) (λd b wr=>0);case atStart=>grind
 case round=>
  clear a;obtain⟨rfl,rfl,a⟩:=hrel;go_step;refine ah ?_;refine cK ?_;refine aP (aor 0 _ ad) ?_;rintro e w1 ⟨f,bH,rfl,h,g⟩;replace a:=a.k9 g h;refine aQ ?_;refine ag ?_;refine ah ?_;refine v3 ?_;refine an ?_;go_wp2_with fail;go_loopw [6,27] (λd b wr=>d=ae f 0 bH/\b=J R 0/\ak w (λ_=>False) wr [bk f 0 bH 5 1 []]) (λd b wr=>0);case atStart=>grind
  case round=>
   clear a;obtain⟨rfl,rfl,a⟩:=hrel;go_step;refine ah ?_;refine ag ?_;refine ah ?_;refine dZ ?_;go_wp2_with fail;go_ret;exact⟨f,bH,aa,(a.fresh 0).row,a.only⟩
def Tk(dm B first bound)id j A c w(b:Has w (qf dm B first bound id j A c))(o:j.last.data.length<=140737488355328):
 aD aw 58 #[ax (ab ⟨dm,0,af⟩)] w λe w'=>match j.has with|false=>e=aB (bm #[av Ni,ai ao])/\ar w w'|true=>∃d f,e=aB (bm #[av (recC j.last d f),ai az])/\cf w w' (cg d f j.last.data):=by
 have q:=hid b;cases hh:j.has with
 |false=>
  have i:aE (aU w dm _ 233):=hid (by have h:=b.1.1;rw[Mv,hh]at h;exact h);clear b hh;go_enter Tryz.func58,Tryz.ntmps58;have a:=bc w;go_step;refine ah ?_;refine bA a #[J _ 0,J _ 0,J _ 0,J _ 0,ae _ 0 0] (λk w1 a=>?_);refine cK ?_;refine pk (ai ao) ?_;refine v4 ?_;refine iL i a.only ?_;refine Dr ?_;refine a' a 0 (av #[J aH 0,J aH 0,J R 0,J R 0,ae af 0 0]) (λr a=>?_);refine bP ?_;go_wp2_with fail;refine dp (v:=_) (mL aa aa aa (a.aX 0) ay ay) aa (⟨aa,a.only⟩)
 |true=>
  have i:aE (aU w dm _ 233):=hid (by have h:=b.1.1;rw[Mv,hh]at h;exact h);have l:aE (∀W,ar w W->aD _ 65 _ W λe w'=>∃d f,e=aB _/\e6 _ w' d f _/\ar W w'):=hid (λW g=>(wZ A c _ W (b.1.2.1.1.aG g) o).mono (λe w' ⟨d,f,h1,m,n⟩=>⟨d,f,h1,Row.nZ m,n⟩));clear b hh;go_enter Tryz.func58,Tryz.ntmps58;have a:=bc w;go_step;refine ah ?_;refine bA a #[J _ 0,J _ 0,J _ 0,J _ 0,ae _ 0 0] (λk s a=>?_);refine cK ?_;refine pk (ai ao) ?_;refine v4 ?_;refine iL i a.only ?_;refine v2 ?_;refine jz ?_;refine aI (av #[J aH j.last.seq,J aH j.last.id,J R j.last.cur,J R j.last.off,ae A j.last.data.length c]) (mi (cs':=#[J aH j.last.seq,J aH j.last.id,J R j.last.cur,J R j.last.off,ae A j.last.data.length c]) aa aa (aU.aG i.out a.only) ay (of_decide_eq_true ay) ay ay) ?_;refine bA a #[J _ 0,J _ 0,J _ 0,J _ 0,ae _ 0 0] (λp t a=>?_);refine a' a 0 (av _) (λu a=>?_);refine b' ?_;refine pl a 0 4 ?_;refine aP (l _ a.only) ?_;rintro e x ⟨aJ,c2,rfl,b,g⟩;replace a:=a.jE g b;refine aQ ?_;refine ag ?_;refine a' a 1 (ae aJ _ c2) (λy a=>?_);refine ah ?_;refine bh a 1 #[J aH j.last.seq,J aH j.last.id,J R j.last.cur,J R j.last.off,ae aJ j.last.data.length c2] ?_;refine a' a 2 (av _) (λz a=>?_);refine bP ?_;go_wp2_with fail;refine dp (v:=_) (mL aa aa aa (a.aX 2) ay ay) aa (⟨aJ,c2,aa,a.fresh 0⟩)
def jh(d:dn)(first bound:Nat)(id:Nat)(j:oX)(nx cu of:Nat)(ds:List Int):Int×oX×dn:=
 let wr:=ly d (nj d first bound (nx%2)) (uh nx id cu of ds)
 if wr.1≠0 then(wr.1,j,wr.2)
 else if(k1 wr.2).1≠0 then((k1 wr.2).1,j,(k1 wr.2).2)
 else(0,⟨aH.wrap ((nx:Int)+1),⟨(nx:Int),(id:Int),(cu:Int),(of:Int),ds⟩,az⟩,(k1 wr.2).2)
theorem akS(a b c d e):(iU [(a,8),(b,8),(c,8),(d,8),(e,4)]).length=36:=aY
theorem RP(nx id cu of)ds:(uh nx id cu of ds).length=44+ds.length:=by unfold uh A1 FU s9 Lk;grind[js,akS]
def ZW{d o bs}(a:dv d)(hn:o+bs.length<=d.bytes.length)(b:d.down=ao)(e:d.cache.length<=1000000000):dv (ly d o bs).2:=by
 have hsm:d.bytes.length<=1048576:=by rw[a.len];exact a.small
 have key:∀(l:List _) k bD,BX d bD k->d.cache.length+k+l.length<1073741824->dv (l.foldl (lg o bs) (0,bD)).2:=by
  intro l;induction l with
  |nil=>intro k bD h _;exact h.ok
  |cons x l g=>
   intro k bD h hk;rw[js]at hk;rw[tO];by_cases hx:(lg o bs (0,bD) x).1=0;·have c:=h.step ad hx;grind
   .rw[NP l _ hx];unfold lg;rw[if_neg a8];exact UL h.ok _ _ (by have:=h.dI;omega)
 refine key _ 0 d ⟨a,aa,aa,b,b4 _⟩ ?_
 have f:(mm d.size o bs.length).length<=d.bytes.length+1:=by
  rw[mm,gV,BO];unfold dY;split;·omega
  .exact zY (ea (Hk _ _) (ea (yt _ _) ad))
 omega
def acL (dm B first bound id nx cu of:Nat) j A c m d ds ael w (hs:Has w (both (qf dm B first bound (id:Int) j A c) (aL B m d))) (O:j.next=(nx:Int)) (r:jg d first bound) (M:d.down=ao) (N:d.cache.length<=1000000000) (EP:ds.length<=bound) (D:nx<18446744073709551616/\id<18446744073709551616/\cu<=4611686018427387903/\of<=4611686018427387903)
 (hp:∀W,au (both (qf dm B first bound (id:Int) j A c) (aL B m d)).cR w W->aD aw 93 #[ael] W λe w'=>∃E F,e=aB (ae E ds.length F)/\e6 W.heap.size w' E F ds/\ar W w'):
 aD aw 227 #[ax (ab ⟨dm,0,af⟩),J R (cu:Int),J R (of:Int),ael] w λe w'=>e=aB (J R (jh d first bound id j nx cu of ds).1)/\∃E F aV,Turned w w' (both (qf dm B first bound (id:Int) j A c) (aL B m d)) (both (qf dm B first bound (id:Int) (jh d first bound id j nx cu of ds).2.1 E F) (aL B aV (jh d first bound id j nx cu of ds).2.2)):=by
 obtain⟨hb1,hb2,hb3⟩:=r.small;have xg:nx%2<=1:=ad;have E9:=r.room xg;obtain⟨z,P⟩:=ex (nj d first bound (nx%2));obtain⟨Q,G⟩:=ex (vS d bound);have lR:bound+44<=Q:=by rw[<-G];exact avg r.dev.kz
 rw[P,G]at E9;obtain⟨bs,Y⟩:=ex (uh nx id cu of ds);have hbl:bs.length=44+ds.length:=by grind[RP]
 obtain⟨bq,Z⟩:=ex ((ly d z bs).1);obtain⟨o,L⟩:=ex ((ly d z bs).2);obtain⟨k,hce⟩:=ex ((k1 o).1);obtain⟨n,EN⟩:=ex ((k1 o).2);have E5:dv o:=by rw[<-L];exact ZW r.dev ad M N
 have azo:=r.eV;have hap:jh d first bound id j nx cu of ds=if bq≠0 then(bq,j,o)else if k≠0 then(k,j,n)else(0,⟨aH.wrap ((nx:Int)+1),⟨(nx:Int),(id:Int),(cu:Int),(of:Int),ds⟩,az⟩,n):=by grind[jh]
 have bR:=hid hp;have GR:=hid (λW ac b2 h=>by have q:=at8 nx id cu of ac b2 ds W ⟨D.1,D.2.1,D.2.2.1,D.2.2.2,ad⟩ h;rw[Y]at q;exact q);have jf:aE (∀W,Has W _->aD _ 131 _ W λe w'=>e=aB (av #[J _ (z:Int),J R (Q:Int)])/\ar W w'):=hid (λW h=>by have q:=acM B m d _ _ W h r _ xg;rw[P,G]at q;exact q);have vc:=hid (λW p fJ dB h I h3 h4 h5=>by have q:=Z0 B m d z p fJ dB bs W h r.dev M ad N I h3 h4 h5;rw[Z,L]at q;exact q);have lq:=hid (λW S h=>by have q:=Zm B S o W h E5;rw[hce,EN]at q;exact q);have x:=hid hap;have ll:=hid hbl;clear hbl hp D P G Y Z L hce EN hap E5 r M N;go_enter func227,ntmps227;have a:ak w (both (qf dm B first bound (id:Int) j A c) (aL B m d)).cR w [aj dm #[ax (ab ⟨B,0,af⟩),J R (first:Int),J R (bound:Int),J aH (id:Int),J aH (nx:Int),J aH j.last.seq,J aH j.last.id,J R j.last.cur,J R j.last.off,ae A j.last.data.length c,ai j.has] 233,cg A c j.last.data,aL B m d]:=by have h:=(ak.start (t:=_) hs).fi.fi;rw[Mv,O]at h;exact h
 go_step;refine ah ?_;refine cK ?_;refine pk (ai ao) ?_;refine cx ?_;refine bN a [11,13,14] (λi u=>match i with|11=>ae u.A ds.length u.c|13=>ax (ab ⟨u.b,0,af⟩)|_=>a1) (λf=>λ|11=>cg ((f 11).A) ((f 11).c) ds|13=>aj ((f 13).b) #[J aH 0,J aH 0,J R 0,J R 0,ae af 0 0] 137|14=>aj ((f 13).b) #[J aH (nx:Int),J aH (id:Int),J R (cu:Int),J R (of:Int),ae (f 11).A ds.length (f 11).c] 137|_=>emp) (λ|14=>[16]|_=>[]) (λ|3=>[0]|7=>[0]|_=>[]) (λ|11=>[11]|13=>[13]|14=>[11,13]|_=>[]) [0,1,2,14,17] (λf=>?_);refine da ?_;refine dl 0 4 ?_;refine da ?_;refine dl 0 3 ?_;refine da ?_;refine du (λwl Fr a=>(bR _ a.only).mono ?_) ?_;·rintro e dA ⟨nv,alK,rfl,r5,g⟩;exact⟨{A:=nv,c:=alK},aa,a.jE g r5⟩
 refine aK ?_;refine rR _ ?_;refine gi _ ?_;refine bU λw1 a=>?_;generalize (f 11).A=T at a⊢;generalize (f 11).c=V at a⊢;generalize (f 13).b=jT at a⊢;refine ah ?_;refine bh a 4 #[J aH (nx:Int),J aH (id:Int),J R (cu:Int),J R (of:Int),ae T ds.length V] ?_;refine aP (GR _ _ _ (a.kK 3).1) ?_;rintro e aW ⟨U,X,rfl,hF⟩;replace a:=a.new _ hF;refine aQ ?_;refine v5 ?_;refine cx ?_;refine bN a [] (λ_ _=>a1) (λ_ _=>emp) (λ_=>[]) (λ|4=>[5]|10=>[1]|_=>[]) (λ_=>[]) [0,1,2,3,4,5] (λf=>?_);refine aK ?_;refine gZ (ai ao) ?_;refine bF ?_;refine dl 0 4 ?_;refine oO ?_;refine dl 0 2 ?_;refine aN (ai ao) (λ_ _ _=>by(go_simp;try omega)) ?_;refine aK ?_;refine bU λbI a=>?_;refine cx ?_;refine bN a [15,18,19] (λi u=>match i with|15=>av #[J R (z:Int),J R (Q:Int)]|18=>ae (ab ⟨u.b,0,af⟩) 1 1|19=>J R bq|_=>a1) (λf=>λ|18=>aj ((f 18).b) #[ae U bs.length X] 22|19=>aL B (f 19).m o|_=>emp) (λ|19=>[3]|_=>[]) (λ|4=>[1]|8=>[1]|12=>[1]|15=>[3]|19=>[0,24]|_=>[]) (λ|18=>[18]|19=>[19]|_=>[]) [0,1,2,4,5,21,24,25] (λf=>?_);refine hD ?_;refine dl 0 0 ?_;refine da ?_;refine eI 0 #[ax (ab ⟨B,0,af⟩),J R (first:Int),J R (bound:Int)] ?_;refine da ?_;refine dl 0 4 ?_;refine aN _ (λ_ _ _=>alm _ _ _ _ aa nx aa aa) ?_;refine aN (J R ((nx%2:Nat):Int)) (λ_ _ _=>by(go_simp;exact IntWalk.i64_in _ ad)) ?_;refine dD (λ_ _ a=>jf _ (a.has 0)) ?_;refine gZ (J R (z:Int)) ?_;refine aK ?_;refine lN _ 22 ?_;refine du (λwl Fr a=>(vc.out _ _ U X (a.has 0) (aU.cell (a.aX 2) 0 aa) (λh=>a.ne (i:=0) (j:=2) aa aa bf _ h aa) (a.kK 1).1 (λy h1 I=>a.ne (i:=1) (j:=0) aa aa bf _ h1 I)).mono ?_) ?_;·rintro e dA ⟨rfl,S,K⟩;exact⟨{m:=S},aa,a.zm K⟩
 refine aK ?_;refine bU λcc a=>?_;generalize (f 18).b=axK at a⊢;generalize (f 19).m=aAu at a⊢;replace a:=a.drop 5;by_cases hz:bq=0
 .have hc1:(if bq≠0 then(bq,j,o)else if k≠0 then(k,j,n)else(0,(⟨_,_,az⟩:oX),n))=if k≠0 then(k,j,n)else(0,(⟨aH.wrap ((nx:Int)+1),⟨(nx:Int),(id:Int),(cu:Int),(of:Int),ds⟩,az⟩:oX),n):=if_neg (λh=>h hz);have s:=hid hc1;clear hc1;subst hz;refine b' ?_;refine pk (ai ao) ?_;refine n3 ?_;refine pl a 1 0 ?_;refine aP (lq _ _ (a.has 6)) ?_;rintro e cJ ⟨rfl,m3,K⟩;replace a:=a.ek 6 K;refine Ds ?_;by_cases H:k=0;·have C:=hid (show(if k≠0 then(k,j,n)else(0,(⟨aH.wrap ((nx:Int)+1),⟨(nx:Int),(id:Int),(cu:Int),(of:Int),ds⟩,az⟩:oX),n))=_ from if_neg (λh=>h H));subst H;refine b' ?_;refine pk (ai ao) ?_;refine hE ?_;refine bh a 4 #[J aH (nx:Int),J aH (id:Int),J R (cu:Int),J R (of:Int),ae T ds.length V] ?_;refine v2 ?_;refine a' a 1 (av _) (λc5 a=>?_);refine v2 ?_;refine a' a 1 (ai _) (λdK a=>?_);refine jz ?_;refine pl a 1 4 ?_;refine pk (J aH (aH.wrap ((nx:Int)+1))) ?_;refine v2 ?_;refine a' a 1 (J _ _) (λdz a=>?_);refine ah ?_;refine ag ?_;refine an ?_;have v:=a.pk [1,3,6];go_wp2_with fail;go_ret;exact⟨by rw[x,s,C];rfl,_,_,m3,by rw[x.out,s.out,C.out];refine ak.fM (l:=[_]) (i:=0) ?_;show ak _ _ _ [both (both (aj dm _ _) (cg _ _ _)) (aL B _ _)];exact v.star.star⟩
  .have C:=hid (show(if k≠0 then(k,j,n)else(0,(⟨aH.wrap ((nx:Int)+1),⟨(nx:Int),(id:Int),(cu:Int),(of:Int),ds⟩,az⟩:oX),n))=_ from if_pos H);have Mq:=H;refine b' ?_;refine aI (ai az) (by(go_simp;try simp[Mq])) ?_;refine ah ?_;refine dZ ?_;have v:=a.pk [1,2,6];rw[<-O]at v;go_wp2_with fail;go_ret;exact⟨by rw[x,s,C];rfl,A,c,m3,by rw[x,s,C];refine ak.fM (l:=[_]) (i:=0) ?_;show ak _ _ _ [both (both (aj dm _ _) (cg _ _ _)) (aL B _ _)];exact v.star.star⟩
 .have s:=hid (show(if bq≠0 then(bq,j,o)else if k≠0 then(k,j,n)else(0,(⟨aH.wrap ((nx:Int)+1),⟨(nx:Int),(id:Int),(cu:Int),(of:Int),ds⟩,az⟩:oX),n))=_ from if_pos hz);have Ms:=hz;refine b' ?_;refine aI (ai az) (by(go_simp;try simp[Ms])) ?_;refine ah ?_;refine dZ ?_;have v:=a.pk [1,2,6];rw[<-O]at v;go_wp2_with fail;go_ret;exact⟨by rw[x,s];rfl,A,c,_,by rw[x.out,s.out];refine ak.fM (l:=[_]) (i:=0) ?_;show ak _ _ _ [both (both (aj dm _ _) (cg _ _ _)) (aL B _ _)];exact v.star.star⟩
def ia(size bound N:Nat):Nat:=(dY size 0 N).2+2*iZ size bound
def qg(size bound N:Nat):Array Value:=#[J R (size:Int),J R (bound:Int),J R 0,J R (N:Int),J R ((dY size 0 N).2:Int),J R ((2*iZ size bound:Nat):Int),J R ((ia size bound N:Nat):Int)]
theorem au4(s N):(dY s 0 N).2<=N+1:=by
 unfold dY;split;·omega
 .exact zY (ea (Hk _ _) (ea (yt _ _) ad))
theorem avh(s b):iZ s b<=b+44:=zY (yt _ _)
def arv(size bound o n:Nat)(h1:1<=size/\size<=1048576)(i:1<=bound/\bound<=65536)(t:o<=1048576)(u:n<=1048576)w:
 aD aw 48 #[J R (size:Int),J R (bound:Int),J R (o:Int),J R (n:Int)] w λe w'=>e=aB (bm #[av (qg size bound (max o n)),J R 0])/\ar w w':=by
 obtain⟨N,j⟩:=ex (max o n);rw[j];have k:max (o:Int) (n:Int)=(N:Int):=ad;have l:=hid k;have x:N<=1048576:=ad;obtain⟨b,d⟩:=ex ((dY size 0 N).2);obtain⟨sc,c⟩:=ex (iZ size bound);have y:b<=N+1:=by grind[au4]
 have A:sc<=bound+44:=by grind[avh]
 have hs1:1<=sc:=by rw[<-c];exact zY (cF _)
 have hlc:qg size bound N=#[J R (size:Int),J R (bound:Int),J R 0,J R (N:Int),J R (b:Int),J R ((2*sc:Nat):Int),J R ((b+2*sc:Nat):Int)]:=by rw[qg,ia,d,c]
 rw[hlc];have p:=hid (λW=>by have q:=acP _ _ h1.1 i.1 i.2 W;rw[c]at q;exact q);have m:aE (∀W,aD _ _ #[J _ _,av #[J _ 0,J _ (N:Int)]] W λe w'=>∃z,e=aB (av #[J _ z,J _ (b:Int)])/\ar W w'):=hid (λW=>by have q:=aeZ _ 0 N ⟨h1.1,ad⟩ ad W;rw[d]at q;exact q.mono (λ_ _ h=>⟨_,h⟩));clear j k d c hlc;go_enter func48,ntmps48;have a:=bc w;go_step;refine ah ?_;refine bA a #[J _ 0,J _ 0,J _ 0,J _ 0,J _ 0,J _ 0,J _ 0] (λs w1 a=>?_);refine mO ?_;refine bH (p.out _) a (λD a=>?_);refine cK ?_;refine bu (ai ao) ?_;refine hE ?_;refine bH (xP 0 (o:Int) _ ⟨ad,ad,ad⟩) a (λE a=>?_);refine v4 ?_;refine bH (xP 0 (n:Int) _ ⟨ad,ad,ad⟩) a (λF a=>?_);refine v2 ?_;refine n3 ?_;refine aI (J R (N:Int)) (by(have h:=l.out;go_simp;try simp[h];try with_reducible rfl)) ?_;refine v2 ?_;refine bA a #[J _ 0,J _ 0,J _ 0,J _ 0,J _ 0,J _ 0,J _ 0] (λr G a=>?_);refine a' a 0 (av _) (λH a=>?_);refine hE ?_;refine bh a 0 #[J R 0,J R (N:Int)] ?_;refine aP (m _) ?_;rintro e I ⟨M,rfl,g⟩;replace a:=a.aG g;refine aQ ?_;refine pk (J R (b:Int)) ?_;refine ag ?_;refine aI _ (nM 3 _ _ 3 aa 2 _ ((2*sc:Nat):Int) aa aa ad ad ad) ?_;refine v2 ?_;refine a' a 0 (av #[J R _,J _ ((2*sc:Nat):Int)]) (λK a=>?_);refine b' ?_;refine bh a 0 #[J R (b:Int),J R ((2*sc:Nat):Int)] ?_;refine bH (lO (b:Int) ((2*sc:Nat):Int) _ ad ad ad) a (λL a=>?_);refine ag ?_;refine a' a 0 (J _ _) (λB a=>?_);refine ah ?_;refine bh a 0 #[J R (size:Int),J R (bound:Int),J R 0,J R (N:Int),J R (b:Int),J R ((2*sc:Nat):Int),J R ((b:Int)+((2*sc:Nat):Int))] ?_;refine a' a 1 (av _) (λC a=>?_);refine bP ?_;have f:(b:Int)+((2*sc:Nat):Int)=((b+2*sc:Nat):Int):=ad;rw[f]at a;clear f;go_wp2_with fail;refine dp (v:=_) (mL aa aa aa (a.aX 1) ay ay) aa (⟨aa,a.only⟩)
def Ty(size bound o n:Nat)(g1 g2)S(h1:1<=size/\size<=1048576)(b:1<=bound/\bound<=65536)(c:o<=1048576)(d:n<=1048576)w:
 aD aw 39 #[J R (size:Int),J R (bound:Int),eB (o:Int) (n:Int) g1 g2 S] w λe w'=>e=aB (bm #[av (qg size bound (max o n)),J R 0])/\ar w w':=by
 go_enter func39,ntmps39;have a:=bc w;go_step;refine ah ?_;refine bG a (av _) (λf w1 a=>?_);refine bA a #[J _ 0,J _ 0,J _ 0,J _ 0,J _ 0,J _ 0,J _ 0] (λg h a=>?_);refine UW ?_;refine pl a 1 0 ?_ (hv:=ku);refine ag ?_;refine pl a 1 1 ?_ (hv:=hZ);refine bH (arv _ _ o n h1 b c d _) a (λi a=>?_);refine v2 ?_;refine a' a 0 (av #[J R _,J R _,J R 0,J R _,J R _,J R _,J R _]) (λj a=>?_);refine bP ?_;go_wp2_with fail;refine dp (v:=_) (mL aa aa aa (a.aX 0) ay ay) aa (⟨aa,a.only⟩)
def ac2(size bound N B)m d w(g:Has w (aL B m d))(b:dv d)(hsz:d.size=size)(hn:ia size bound N<=d.cnt):
 aD aw 52 #[av (qg size bound N),c0 B] w λe w'=>e=aB (J R 0)/\ar w w':=by
 have c:=hid g;have l:=b.B5;clear g;obtain⟨h,f⟩:=ex (ia size bound N);rw[f]at hn;have hlc:qg size bound N=#[J R (size:Int),J R (bound:Int),J R 0,J R ((N:Nat):Int),J R ((dY size 0 N).2:Int),J R ((2*iZ size bound:Nat):Int),J R (h:Int)]:=by grind[qg]
 rw[hlc];subst hsz;clear f hlc;go_enter func52,ntmps52;have a:=bc w;go_step;refine ah ?_;refine bG a (av _) (λk w1 a=>?_);refine cK ?_;refine pk (ai ao) ?_;refine iB ?_;refine bN a [1] (λi _=>match i with|1=>J R (d.size:Int)|_=>a1) (λ_ _=>emp) (λ_=>[]) (λ|3=>[0]|_=>[]) (λ_=>[]) [0,2] (λj=>?_);refine aK ?_;refine dD (λ_ _ a=>w4 B m d _ (c.out.aG a.only).dev b) ?_;refine aK ?_;refine dl 0 0 ?_;refine aN (ai ao) (λ_ _ _=>by(go_simp;try simp)) ?_;refine aK ?_;refine bU λn a=>?_;replace a:=a.drop 1;refine cx ?_;refine bN a [1] (λi _=>match i with|1=>J R (d.cnt:Int)|_=>a1) (λ_ _=>emp) (λ_=>[]) (λ|3=>[0]|_=>[]) (λ_=>[]) [0,2] (λj=>?_);refine aK ?_;refine dD (λ_ _ a=>Lp B m d _ (c.out.aG a.only).dev b) ?_;refine aK ?_;refine dl 0 6 ?_;refine aN (ai ao) (λ_ _ _=>by(go_simp;try omega)) ?_;refine aK ?_;refine bU λo a=>?_;replace a:=a.drop 1;refine ah ?_;refine ag ?_;refine an ?_;go_wp2_with fail;go_ret;exact⟨aa,a.only⟩
def IH{s N e x}(b:1<=s):N<=s*((dY s 0 N).2+x+e):=by
 rcases lL N with h|h;·omega
 .have h1:(dY s 0 N).2=(N -1)/s+1:=by unfold dY;rw[if_neg ad];simp
  have a:N<=s*(dY s 0 N).2:=by rw[h1,Nat.mul_succ];have c:=QV (N -1) s;have d:=KK (N -1) b;omega
  exact ea a (Nat.mul_le_mul_left _ ad)
def adb(size bound N ex p)A c b w(h1:1<=size)(hc:size*(ia size bound N+ex)<=1048576)(hb1:b.length<=N)(l:w.cell? ⟨p,0,af⟩=ab (ae A b.length c))(hb:bX w A b):
 aD aw 40 #[av (qg size bound N),J R (ex:Int),ae (ab ⟨p,0,af⟩) 1 1] w λe w'=>∃B m,e=aB (bm #[c0 B,J R 0])/\cf w w' (aL B m (hP size (ia size bound N+ex) b)):=by
 obtain⟨d,f⟩:∃z,ia size bound N=z:=⟨_,aa⟩;rw[f]at hc⊢;have hlc:qg size bound N=#[J R (size:Int),J R (bound:Int),J R 0,J R ((N:Nat):Int),J R ((dY size 0 N).2:Int),J R ((2*iZ size bound:Nat):Int),J R (d:Int)]:=by rw[qg,f]
 rw[hlc];have E:1<=d:=by rw[<-f,ia];have:1<=iZ size bound:=zY (cF _);omega
 have hle:d+ex<=size*(d+ex):=Hj _ h1;have hbl:b.length<=size*(d+ex):=ea hb1 (by rw[<-f,ia];exact IH h1);have r:aE (∀W,ar w W->aD _ 93 _ W λe w'=>∃i j,e=aB _/\e6 _ w' i j b/\ar W w'):=hid (λW g=>(Hw p A c b W (g.cell l (λh=>h)) (hb.aG g) ad).mono (λe w' ⟨i,j,h1,s,t⟩=>⟨i,j,h1,Row.nZ s,t⟩));have o:=hid (λW q aJ c2 h u=>am0 size _ q aJ c2 b W h1 ad hc hbl h u);have k:=TI (size:=_) (cnt:=_) (b:=b) h1 ad hc hbl;have n:=hid (λW B m h=>by have q:=ac2 size _ N B m _ W h k aa (by rw[f];show d<=d+ex;omega);rw[hlc]at q;exact q);have y:¬size=0:=ad;have F:d+ex<=1048576:=ad;clear l hb f hlc k hle;go_enter func40,ntmps40;have a:=bc w;go_step;refine ah ?_;refine bG a (av _) (λC w1 a=>?_);iterate 2 refine ag ?_
 refine an ?_;go_step;refine ah ?_;refine ag ?_;refine aP (r _ a.only) ?_;rintro e G ⟨aJ,c2,rfl,x,g⟩;replace a:=a.jE g x;refine aQ ?_;refine ag ?_;refine an ?_;go_step;refine ah ?_;refine ag ?_;refine aI (ai ao) (by(go_simp;try omega)) ?_;iterate 5 refine ag ?_
 refine pl a 1 3 ?_;refine aI (ai ao) (by(go_simp;try omega)) ?_;refine ag ?_;refine an ?_;go_step;refine ah ?_;refine ag ?_;refine pl a 1 0 ?_;refine ag ?_;refine pl a 1 6 ?_;refine ag ?_;refine aI _ (mZ 3 _ _ 3 aa _ _ ((d+ex:Nat):Int) aa aa ad ad ad) ?_;refine ag ?_;refine fC a #[ae aJ b.length c2] 22 (λD H a=>?_);refine aP (o _ _ aJ c2 (aU.cell (a.aX 0) 0 aa) (a.kK 1).1) ?_;rintro e I ⟨B,m,rfl,v⟩;replace a:=a.new _ v;refine aQ ?_;refine ag ?_;refine an ?_;go_step;refine ah ?_;refine ag ?_;refine an ?_;go_step;refine ah ?_;refine bh a 3 #[J R (size:Int),J R (bound:Int),J R 0,J R ((N:Nat):Int),J R ((dY size 0 N).2:Int),J R ((2*iZ size bound:Nat):Int),J R (d:Int)] ?_;refine ag ?_;refine aI (ai ao) (by(go_simp;try simp[y])) ?_;iterate 2 refine ag ?_
 refine bh a 3 #[J R (size:Int),J R (bound:Int),J R 0,J R ((N:Nat):Int),J R ((dY size 0 N).2:Int),J R ((2*iZ size bound:Nat):Int),J R (d:Int)] ?_;refine ag ?_;refine aP (n.out _ B m (a.has 0)) ?_;rintro e K ⟨rfl,g⟩;replace a:=a.aG g;refine aQ ?_;iterate 2 refine ag ?_
 refine an ?_;go_step;refine ah ?_;iterate 3 refine ag ?_
 refine an ?_;go_wp2_with fail;go_ret2;exact⟨B,m,aa,a.fresh 0⟩
def amL {P:ee} {ops:Array Oper} {rest:List Oper} {Q:Exit->Act->aM->Prop} {o:Oper} {a j:Act} {aq:aM} {FX:Nat->Prop} {dst:Nat->Option Tmp} {LE:List Nat} {e:Nat->e7->aO} {c:List bp} {out:(Nat->e7)->Nat->bp} {ins rd:Nat->List Nat} {fin:List Nat} {QP:List PanicEntry->aM->Prop} {b:Nat->e7} {i k:Nat} {s:bp} (f:e7)
 (hr:∀w (Fr:List bp),ak aq FX w ((ins i).map (dk c out b)++((rd i).map (dk c out b)++Fr))->∃w',(bt a.eval o).run P w=a6 (c9 (e i f)) w'/\Turned w w' s (out (dw b i f) i)) (h:cM P ops Q dst LE e aq FX c out ins rd fin QP b (i+1) rest j)
 (hn:ins i=[k]:=by rfl) (hk:dk c out b k=s:=by rfl) (hd:dst i=o.dst:=by rfl) (hlt:(match o.dst with|some d=>decide (d<a.tmps.size)|none=>ao)=true:=by kernel_rfl)
 (hi:decide (i∈LE)=true:=by kernel_rfl) (hw:Region.wanted o (yielded ops a.tmps)=true:=by kernel_rfl) (ha:a.put o.dst (e i (b i))=j:=by((try simp only[Act.put,List.setIfInBounds_toArray,List.set_cons_zero,List.set_cons_succ]);rfl)):cM P ops Q dst LE e aq FX c out ins rd fin QP b i (o::rest) a:=by
 refine w5 (λw Fr g K n=>?_) h hi ha;rw[if_pos hw];obtain⟨w',h1,m⟩:=hr w Fr g;rw[hn]at g;have l:ak aq FX w (s::((rd i).map (dk c out b)++Fr)):=aF;unfold Oper.wp;rw[h1];show K _ _;refine n f _ _ ?_ (put_defers _ _ _) (l.zm m);rw[hd];cases hq:o.dst with
 |none=>grind
 |some d=>simp only[hq,decide_eq_true_eq]at hlt;simp[lF,Act.eval,Act.put,hlt]
def eo(L:List Nat):Array Value:=(L.map (λ(n:Nat)=>J R (n:Int))).toArray
def UG(B t:Nat)L cs w(hb:aU w B cs t)(hcs:eo L=cs)(cz:∀n∈L,(n:Int)<=4611686018427387903)(h:L.length<=1048576):
 aD aw 204 #[ae (ab ⟨B,0,af⟩) L.length L.length] w λe w'=>e=aB (ai az)/\ar w w':=by
 subst hcs;have d:=hid hb;clear hb;go_enter func204,ntmps204;have a:=bc w;go_step;refine ah ?_;refine en ?_;iterate 3 refine ag ?_
 refine an ?_;go_wp2_with fail;go_loopw [7] (λb wr=>∃j:Nat,j<=L.length/\b=J R (j:Int)/\ak w (λ_=>False) wr []) (λb wr=>L.length -(cy b).toNat);case atStart=>grind
 case round=>
  clear a;obtain⟨j,i,rfl,a⟩:=hrel;by_cases hlt:j<L.length
  .have g:(j:Int)<(L.length:Int):=ad;obtain⟨x,hx⟩:∃x,L[j]?=ab x:=⟨_,cC hlt⟩;have k:=cz x (cY hx);have c:(eo L)[j]?=ab (J R (x:Int)):=by grind[eo]
   have f:=hid c;clear hx c;go_step;refine ah ?_;refine en ?_;refine aI (ax (ab ⟨B,j,af⟩)) (cq 82 3 1 (bj 5) (bj 7) aa Tryz.underlying82 ay B 0 (L.length) (L.length) j j aa aa hlt ad) ?_;refine aI _ (fw aa aa (aU.aG d a.only) f ay) ?_;refine en ?_;iterate 2 refine ag ?_
   refine bH (xP 0 (x:Int) _ ⟨ad,ad,ad⟩) a (λw1 a=>?_);refine en ?_;refine pad (j:Int) 1 ((j+1:Nat):Int) ?_;refine bP ?_;go_wp2_with fail;go_roundw;case rel=>exact⟨j+1,ad,aa,a⟩
   case measure=>grind[cy]
  .have g:¬(j:Int)<(L.length:Int):=ad;go_step;refine ah ?_;refine ag ?_;refine ah ?_;refine ag ?_;refine an ?_;go_wp2_with fail;go_ret;exact⟨aa,a.only⟩
def u64_in x(h:0<=x/\x<18446744073709551616):aH.wrap x=x:=by grind[DL,DK,JT]
def Ce(n:Nat)w(hn:(n:Int)<=4611686018427387903):
 aD aw 127 #[J R (n:Int)] w λe w'=>e=aB (av #[J aH (n:Int),J R 8])/\ar w w':=by
 go_enter func127,ntmps127;have a:=bc w;go_step;refine ah ?_;refine bA a #[J aH 0,J R 0] (λb w1 a=>?_);refine b' ?_;refine aI (J aH (n:Int)) (by(go_simp;exact u64_in _ ad)) ?_;refine ag ?_;refine a' a 0 (av #[J aH (n:Int),J R 8]) (λc a=>?_);refine an ?_;go_wp2_with fail;refine dp (v:=_) (jd aa _ _ _ _ _ _ _ aa (a.aX 0) underlying227 aa ay) aa (⟨aa,a.only⟩)
def amW(o n:Nat)(g1 g2)A c ms w(ho:(o:Int)<=4611686018427387903/\(n:Int)<=4611686018427387903)(C:cX w A ms)(hv:∀m∈ms,gW m)(U:ms.length<=1048576):
 aD aw 125 #[eB (o:Int) (n:Int) g1 g2 (ae A ms.length c)] w λe w'=>e=aB (J R 0)/\ar w w':=by
 have I:=hid C;have L:=hv;clear C hv;go_enter func125,ntmps125;have a:=bc w;go_step;refine ah ?_;refine bG a (av (a7 (o:Int) (n:Int) g1 g2 (ae A ms.length c))) (λE w1 a=>?_);refine cK ?_;refine pl a 0 0 ?_ (hv:=ku);refine ag ?_;refine pl a 0 1 ?_ (hv:=hZ);refine fC a #[J R (o:Int),J R (n:Int)] 3 (λF V a=>?_);refine bH (UG F 3 [o,n] _ _ (a.aX 0) aa (by intro x hx;simp only[gF,fQ,or_false]at hx;omega) (by show _<=_;simp)) a (λW a=>?_);refine cK ?_;refine pl a 1 66 ?_ (hv:=eH);iterate 2 refine ag ?_
 refine an ?_;go_wp2_with fail;go_loopw [3,15] (λok t wr=>∃j:Nat,j<=ms.length/\ok=ai az/\t=J R (j:Int)/\ak w (λ_=>False) wr [aj E (a7 (o:Int) (n:Int) g1 g2 (ae A ms.length c)) 26]) (λok t wr=>ms.length -(cy t).toNat);case atStart=>exact⟨0,cF _,aa,aa,a.pick [1]⟩
 case round=>
  clear a;obtain⟨j,T,rfl,rfl,a⟩:=hrel;by_cases hlt:j<ms.length
  .have N:(j:Int)<(ms.length:Int):=ad;obtain⟨m,s⟩:∃m,ms[j]?=ab m:=⟨_,cC hlt⟩;obtain⟨q,i,l,r,v,y,z⟩:=cX.ji I s;have G:=hid v;have S:=hid y;have H:=hid z;have K:=hid s;clear v y z s;have O:=L m (cY K);go_step;refine ah ?_;refine en ?_;refine aI (ax (ab ⟨q,(i+j*5),af⟩)) (cq 24 73 5 (bj 13) (bj 15) aa Tryz.underlying24 ay q i (ms.length) c j ((i+j*5)) (by show ae A _ _=_;rw[G]) aa hlt aa) ?_;refine aI (av #[J R m.k,J R m.to,J R m.fr,J R m.n,ae l m.data.length r]) (by(refine eC 73 (bj 17) aa q (i+j*5) aa ([J R m.k,J R m.to,J R m.fr,J R m.n,ae l m.data.length r]:List aO) (H _ a.only) Tryz.underlying73 aa ay)) ?_;refine bA a #[J R 0,J R 0,J R 0,J R 0,ae af 0 0] (λQ X a=>?_);refine a' a 0 (av #[J R m.k,J R m.to,J R m.fr,J R m.n,ae l m.data.length r]) (λY a=>?_);refine b' ?_;refine pl a 0 0 ?_;refine an ?_;rcases O with⟨hk,⟨u,v2,v3⟩,⟨pw,ns,sf⟩,lS,p5⟩|⟨hk,⟨u,v2,v3⟩,yV,lS,p5⟩
   .simp only at u v2 v3 pw ns sf;obtain⟨cQ,d⟩:∃x:Nat,m.to=(x:Int):=⟨m.to.toNat,ad⟩;obtain⟨dg,B⟩:∃x:Nat,m.fr=(x:Int):=⟨m.fr.toNat,ad⟩;obtain⟨P,D⟩:∃x:Nat,m.n=(x:Int):=⟨m.n.toNat,ad⟩;have M:(m.data.length:Int)=0:=by rw[p5];rfl
    have g:=hid hk;have b:=hid d;have f:=hid B;have h:=hid D;clear hk d B D;refine ah ?_;refine di g (ai az) ?_;refine en ?_;iterate 3 refine ag ?_
    refine pl a 0 1 ?_;refine ag ?_;refine pl a 0 2 ?_;refine ag ?_;refine pl a 0 3 ?_;refine fC a #[J R m.to,J R m.fr,J R m.n] 3 (λp Z a=>?_);refine bH (UG p 3 [cQ,dg,P] _ _ (a.aX 0) (by rw[b,f,h];rfl) (by intro x hx;simp only[gF,fQ,or_false]at hx;have:=b.out;have:=f.out;have:=h.out;omega) (by show _<=_;simp)) a (λdK a=>?_);iterate 3 refine ag ?_
    refine pl a 1 4 ?_;refine ag ?_;refine aI (ai az) (by(go_simp;try simp[M];try omega)) ?_;iterate 2 refine ag ?_
    refine ah ?_;refine pad (j:Int) 1 ((j+1:Nat):Int) ?_;refine bP ?_;go_wp2_with fail;go_roundw;case rel=>exact⟨j+1,ad,aa,aa,a.pick [2]⟩
    case measure=>simp[cy]<;>omega
   .simp only at u v2 v3;obtain⟨cQ,d⟩:∃x:Nat,m.to=(x:Int):=⟨m.to.toNat,ad⟩;have g:=hid hk;have b:=hid d;have f:=hid yV;have h:=hid lS;clear hk d yV lS;refine ah ?_;refine di g (ai ao) ?_;refine en ?_;refine di g (ai az) ?_;refine en ?_;iterate 3 refine ag ?_
    refine pl a 0 1 ?_;refine fC a #[J R m.to] 3 (λp dz a=>?_);refine bH (UG p 3 [cQ] _ _ (a.aX 0) (by rw[b];rfl) (by intro x hx;simp only[gF,fQ,or_false]at hx;have:=b.out;omega) (by show _<=_;simp)) a (λeY a=>?_);iterate 3 refine ag ?_
    refine pl a 1 2 ?_;refine di f (ai az) ?_;iterate 3 refine ag ?_
    refine pl a 1 3 ?_;refine di h (ai az) ?_;iterate 2 refine ag ?_
    refine ah ?_;refine pad (j:Int) 1 ((j+1:Nat):Int) ?_;refine bP ?_;go_wp2_with fail;go_roundw;case rel=>exact⟨j+1,ad,aa,aa,a.pick [2]⟩
    case measure=>simp[cy]<;>omega
  .have N:¬(j:Int)<(ms.length:Int):=ad;go_step;refine ah ?_;refine en ?_;iterate 2 refine ag ?_
   refine ah ?_;refine ag ?_;refine an ?_;go_wp2_with fail;go_ret;exact⟨aa,a.only⟩
section
attribute [local irreducible] wpList cM
end
end Go.Proofs.YtcmhplknoglbkaaGreat
