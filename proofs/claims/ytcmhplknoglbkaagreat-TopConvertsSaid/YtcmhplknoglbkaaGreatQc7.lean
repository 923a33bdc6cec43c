/- Part 7 of the proof of TopConvertsSaid. -/
import Derived.Shelf.Bytes.SlSmallAll
import Derived.Test.YtcmhplknoglbkaaGreatQc0
import Derived.Test.YtcmhplknoglbkaaGreatQc3
import Derived.Test.YtcmhplknoglbkaaGreatQc4
import Derived.Test.YtcmhplknoglbkaaGreatQc6
set_option linter.all false
set_option maxRecDepth 100000
set_option maxHeartbeats 4000000
open Go.Proofs.Tryz
open Array renaming getElem?_eq_some_iff->pj,replicate_succ->qf,replicate_zero->qg
open Bool renaming false->au,true->aB
open Go renaming Addr->bU,Calls->aD,Program->eu,Value->aO,World->aM,bodyPost_ret->dn,callFunc->kj,cell_of_row->eB,execOp->bt,heap_alloc_new->fe,info_parts->rf,maxLen->dN,resolve->mX,results->n',results_cell_row->jd,run_copy_row->JX,undef->aY,wpList_nil->an
open Go.Ending renaming returned->aA
open Go.Fn renaming func->ej
open Go.IntKind renaming bits->Di,i64->R,signed->JF,u64->aG,u8->d',wrap->Dj
open Go.Lib renaming bytesOf->FV
open Go.Next renaming value->c8
open Go.Obj renaming cells->bc
open Go.Operand renaming tmp->bb
open Go.Proofs.Tryz renaming func199->Vo,ntmps199->VS,prog->ax,underlying137->O2,underlying22->dI,underlying235->xR,underlying5->lj,underlying82->ij
open Go.Proofs renaming enters_of->ll,intOf->cd
open Go.Result renaming andThen_ok->ji,ok->a7
open Go.RowKit renaming Hid->aE,intOf->cw
open Go.Sem renaming run_bind->gj,run_pure->jR
open Go.TypeDesc renaming slice->hT
open Go.Value renaming agg->av,bool->ak,func->dJ,int->J,oneCell'->wB,pointer->ay,slice->ad,tuple->bg
open List renaming append_assoc->j5,append_toArray->qu,cons_append->pB,drop_of_length_le->GK,eq_nil_of_length_eq_zero->jH,filter_append->pC,filter_eq_self->zE,findIdx?_eq_some_iff_getElem->Qs,foldl_append->XC,foldl_cons->zF,getElem?_append_left->tD,getElem?_append_right->oe,getElem?_drop->DP,getElem?_eq_getElem->cj,getElem?_eq_some_iff->eQ,getElem?_toArray->zG,length->vg,length_append->dv,length_cons->jT,length_drop->vh,length_map->gU,length_nil->l2,length_range->DR,length_replicate->rB,length_singleton->wO,length_take->oT,map_cons->jx,map_nil->kC,map_toArray->og,mem_append->jf,mem_cons->gy,mem_iff_getElem?->oU,mem_of_getElem?->cL,mem_singleton->vi,nil_append->nd,not_mem_nil->ga,push_toArray->qv,replicate->fq,size_toArray->iQ,take_add_one->fu,take_length->ik
open Nat renaming div_add_mod->aj5,div_le_self->zH,eq_zero_or_pos->lJ,le_mul_of_pos_left->GO,le_refl->cm,le_trans->eC,lt_of_lt_of_le->vl,lt_or_ge->XM,mod_lt->XO,mul_le_mul_right->tH,sub_le->GP,succ_le_succ->zK,zero_add->kV,zero_le->cQ
open Option renaming getD_some->pG,none->af,some->ab,toList_some->yb
open Or renaming inl->bH,inr->b1
open Prod.mk renaming injEq->oh
namespace Go.Proofs.YtcmhplknoglbkaaGreat
section
open Go.RowKit Go.MapKept
section
variable {P:eu} {o:Oper} {a:Act} {w:aM}
def Th{ty t B:Nat}{v}(hb:aW w B #[v] t)(b:(P.underlying ty).map (λd=>d.isRow)=ab au):(loadVar ty ⟨B,0,af⟩).run P w=a7 v w:=by
 have hc:=hb.cell 0 aa;cases hq:P.underlying ty with
 |none=>grind
 |some d=>
  have a:d.isRow=false:=aF
  have hagg:(isAgg ty).run P w=a7 au w:=by unfold isAgg;rw[gj,run_underlying hq w];cases d<;>simp_all
  simp[loadVar,hagg,hc]
def Ft{a}{p ty t B:Nat}{v tmps}(h:a.results=#[.cell p ty])(b:tmps.getD p aY=ay (ab ⟨B,0,af⟩))(hb:aW w B #[v] t)(c:(P.underlying ty).map (λd=>d.isRow)=ab au):(n' a tmps).run P w=a7 v w:=by rw[xy h,b];simp[asAddr,Th (P:=P) hb c]
def aec {a} {p ty t B c e t2 jN:Nat} {v v2 tmps} (h:a.results=#[.cell p ty,.cell c e]) (b:tmps.getD p aY=ay (ab ⟨B,0,af⟩)) (hb:aW w B #[v] t) (g:(P.underlying ty).map (λd=>d.isRow)=ab au)
 (p0:tmps.getD c aY=ay (ab ⟨jN,0,af⟩)) (hb2:aW w jN #[v2] t2) (SQ:(P.underlying e).map (λd=>d.isRow)=ab au):(n' a tmps).run P w=a7 (bg #[v,v2]) w:=by
 have h1:=Th (P:=P) hb g;have f:=Th (P:=P) hb2 SQ;simp only[n',h];simp only[Array.getD_eq_getD_getElem?]at b p0;simp[b,p0,asAddr,h1,f]
def auv {d g} {b f c B off n cap m c2 t:Nat} {aJ old new cs} (l:o.op=.call {callee:=.builtin .copy,args:=#[d,g],argTypes:=#[b,f]}) (k:a.eval d=ad (ab ⟨B,off,af⟩) n cap) (q:a.eval g=ad aJ m c2) (e:aW w B old t) (hr:Cells w 1 aJ m cs) (u:n<=m) (r:0<n)
 (o3:off+n<=old.size) (h1:∀v∈cs,v.oneCell'=aB) (lS:(old.toList.take off++cs.take n++old.toList.drop (off+n)).toArray=new) (hu:P.underlying b=ab (hT c)) (hs:(P.info? c).map (·.size)=ab 1):
 ∃w',(bt a.eval o).run P w=a7 (c8 (J R (n:Int))) w'/\Turned w w' (ai B old t) (ai B new t):=by
 obtain⟨h,rfl,p⟩:=hr.2 ae;have hcs:=by simpa using hr.1
 have i:(cs.take n).length=n:=aF;have hr:=JX (P:=P) w b f o.type _ B off n cap h m c2 _ t (cs.take n) hu hs e aF (λj v s=>p j v aF) ae (λv hv=>h1 v (List.mem_of_mem_take hv));refine⟨w.setRow B (old.toList.take off++cs.take n++old.toList.drop (off+n)).toArray,?_,vq (ar.setRow w B _) ?_⟩;·unfold bt;simp only[l,mX,invoke,builtin,gj,jR,ji,og,jx,kC,k,q,hr,i];rfl
 .rw[<-lS];exact e.setRow _
end
def aeS {P o} {a:Act} {w} (t e:Nat) (x lo) (b:o.op=.slice t x (ab lo) af af) (f:P.underlying t=ab (hT e)) (d:(P.info? e).map (·.size)=ab 1) (B n c i m:Nat)
 (hx:a.eval x=ad (ab ⟨B,0,af⟩) n c) (ka:a.eval lo=J R (i:Int)) (hm:i+m=n) (h2:n<=c) (hi:i<c):(bt a.eval o).run P w=a7 (c8 (ad (ab ⟨B,i,af⟩) m (c -i))) w:=by
 have h:=AL (w:=w) t e 1 x lo b f d _ n c i m hx ka hm h2;rw[afF hi]at h;exact h
def akg{bs b:List Int}{off n}(h:n<=b.length):((aX a8 bs []).toList.take off++(b.map a8).take n++(aX a8 bs []).toList.drop (off+n)).toArray=aX a8 (ie bs off (b.take n)) []:=by have e:(b.take n).length=n:=aF;simp[aX,ie,e]
def rdStep(d:dL)(o:Nat)(out:List Int)(x:Nat×Nat×Nat):List Int:=ie out (x.2.1 -o) (((mO d x.1).drop (x.2.1 -x.1*d.size)).take x.2.2)
def pb(d:dL)(o n:Nat):List Int:=(oI d.size o n).foldl (rdStep d o) (fq n 0)
def GQ(d:dL)(o n:Nat)(x:Nat×Nat×Nat):Prop:=x.1*d.size<=x.2.1/\o<=x.2.1/\0<x.2.2/\x.2.1+x.2.2<=o+n/\x.2.1+x.2.2<=x.1*d.size+d.size/\x.1<d.cnt
def TR{d}(b:dR d){o n}(g:o+n<=d.bytes.length){x}(hx:x∈oI d.size o n):GQ d o n x:=by
 obtain⟨h1,c,e⟩:=atm b.mj hx;have a:=adS (i:=_) b.mj c e;rw[<-h1]at a;refine⟨a.1,a.2.1,a.2.2.1,a.2.2.2.1,a.2.2.2.2,?_⟩;have f:x.1*d.size<d.cnt*d.size:=by rw[<-b.len];omega
 exact Nat.lt_of_mul_lt_mul_right f
def atA{d}(g:dR d){o n out x}(hx:GQ d o n x)(h:out.length=n):(rdStep d o out x).length=n:=by obtain⟨h1,a,b,c,e,f⟩:=hx;grind[rdStep,Az]
def TW{d}(a:dR d){o n}:∀(l:List (Nat×Nat×Nat)) out,(∀x∈l,GQ d o n x)->out.length=n->(l.foldl (rdStep d o) out).length=n
 |[],_,_,h=>h
 |x::l,out,hx,h=>by rw[zF];exact TW a l _ (λy b=>hx y (List.mem_cons_of_mem _ b)) (atA a (hx x (List.mem_cons_self ..)) h)
theorem AF{d}(a:dR d){o n}(b:o+n<=d.bytes.length):(pb d o n).length=n:=TW a _ _ (λ_ hx=>TR a b hx) rB
def aj.ak7{ao w:aM}{FX:Nat->Prop}{l:List br}{B:Nat}{bs:List Int}(h:aj ao FX w l)(i:Nat)(hi:l[i]?=ab (ai B (aX a8 bs []) 5):=by rfl):aj ao FX w (l.set i (cc (ab ⟨B,0,af⟩) bs.length bs)):=
 h.as i hi _ (λhb=>⟨GY hb,λb off a e=>by
  injection e with e;injection e with bB b7;subst bB;exact⟨cQ _,_,hb⟩,cm _⟩) (λb ⟨off,a,e⟩=>by
  injection e with e;injection e with bB b7;exact bB.symm)
def Zy B m d(o n)w(hs:Has w (aN B m d))(f:dR d)(cZ:d.down=au)(K:o+n<=d.bytes.length):
 aD ax 130 #[dh B,gI ((o:Int),(n:Int))] w λe w'=>∃A c,e=aA (bg #[ad A n c,J R 0])/\b3 w w' (cc A c (pb d o n)):=by
 have hbl:d.bytes.length<=1048576:=by rw[f.len];exact f.small
 have hs1:=f.mj;have hs2:d.size<=d.bytes.length:=by rw[f.len];exact GO _ f.vr
 have HF:∀i:Nat,i<d.cnt->j9 d i=0:=λi hi=>by grind[j9]
 have va:aE (∀i W,i<d.cnt->Has W _->aD ax 209 _ W λe w'=>∃O U,e=aA (bg #[ad O d.size U,J R 0])/\b3 W w' (cc O U (mO d i))):=hid (λi W hi h=>(Y5 B m d i W h f).mono (λe w' hh=>aF));have G:aE (∀x∈oI _ o n,GQ d o n x):=hid (λx hx=>TR f K hx);obtain⟨xs,M⟩:=ex (oI d.size o n);have Xt:=hid M;have iC:∀bX p,yd ax 280 #[ay (ab ⟨bX,0,af⟩),ay (ab ⟨p,0,af⟩)] (λx:Nat×Nat×Nat=>#[J R (x.1:Int),gI ((x.2.1:Int),(x.2.2:Int))]) w (λ_=>False) (both (ai bX #[J R (d.size:Int)] 3) (ai p #[J R (o:Int),J R (n:Int)] 35)) (λ_=>True) xs:=λbX p=>by grind[adA]
 have Q:aE (pb d o n=xs.foldl (rdStep d o) (fq n 0)):=hid (by grind[pb]);rw[M]at G;have lq:aE (∀W,Has W _->aD _ _ #[dh B,av #[J _ (o:Int),J _ (n:Int)]] W λe w'=>e=aA _/\aq W w'):=hid (λW h=>Zo B m d o n W h.dev f K);clear HF M;refine BH func130 aa ?_;simp only[ntmps130,iQ,jT,l2,qf,qg,qv,qu,nd,pB];have a:=bf w;have z:=hid hs;go_step;refine ag ?_;refine bM a (ay _) (λr w1 a=>?_);refine bM a (av #[J _ (o:Int),J _ (n:Int)]) (λs aR a=>?_);refine bx a #[ad _ 0 0] (λed bL a=>?_);refine bx a #[J _ 0] (λeK ca a=>?_);refine an ?_;go_step;refine ag ?_;refine pl a 3 0 ?_;refine bq a 2 #[J R (o:Int),J R (n:Int)] ?_;refine a6 (lq _ (z.out.aH a.only)) ?_;rintro e cF ⟨rfl,g⟩;replace a:=a.aH g;refine ba ?_;refine ah ?_;refine an ?_;go_step;refine ag ?_;refine ah ?_;refine pk (ak au) ?_;refine an ?_;go_step;refine ag ?_;refine ah ?_;refine pl a 2 1 ?_;refine IH a (Tz n aa aa aa dI aS ae) (λj c6 a=>?_);refine bx a #[ad _ 0 0] (λv dW a=>?_);refine a' a 0 (ad _ n n) (λdG a=>?_);refine an ?_;go_step;refine ct ?_;refine bN a [1,3] (λi u=>match i with|1=>J R (d.size:Int)|3=>dJ (ej 280) #[] #[ay (ab ⟨u.b,0,af⟩),ay (ab ⟨u.eY,0,af⟩)]|_=>aY) (λk=>λ|3=>both (ai (k 3).b #[J R (d.size:Int)] 3) (ai (k 3).eY #[J R (o:Int),J R (n:Int)] 35)|_=>emp) (λ_=>[]) (λ|0=>[5]|2=>[4]|_=>[]) (λ|3=>[3]|_=>[]) [0,1,2,3,4,5,7,9] (λk=>?_);refine dl 0 0 ?_;refine df (λwl Fr a=>(wY B m d _ (z.out.aH a.only).dev f).mono ?_) ?_;·rintro e dm ⟨rfl,g⟩;exact⟨{},aa,(a.aH g).dS⟩
 refine ea 0 #[J R (o:Int),J R (n:Int)] ?_;refine df (λwl Fr a=>(adB _ o n _).mono ?_) ?_;·rintro e dm ⟨bX,p,rfl,I⟩;exact⟨{b:=bX,eY:=p},aa,a.new _ I⟩
 refine bQ λe8 a=>?_;generalize (k 3).b=axd at a⊢;generalize (k 3).eY=axe at a⊢;replace a:=a.drop 6;go_wp2_with fail;have T:aj _ _ _ [both _ _,bO [ai r #[ay _] 32,ai s #[J R _,J R (n:Int)] 35,ai v _ 22,ai j _ 5],bO [ai eK _ 47,ai ed _ 22]]:=aj.D0 (a.pick [6,5,4,0,1,2,3]);refine Jc (encs:=(λx:Nat×Nat×Nat=>#[J R (x.1:Int),gI _])) aa (ll Tryz.func280 aS aa) (λ_=>aa) (iC _ _) (λpre t=>t=bO [ai r _ 32,ai s _ 35,ai v _ 22,ai j (aX a8 (pre.foldl (rdStep d o) _) []) 5]) (λ_ _ _=>False) aa T ?_ ?_ ?_;all_goals clear T a
 .rintro l rd pre x W t F L p1 rfl a;replace a:=a.lE;repeat((fail_if_success (with_reducible refine at_region ?_));gi_step)
  refine ke ?_;refine ah ?_;refine an ?_;repeat((fail_if_success (with_reducible refine at_region ?_));gi_step)
  refine ke ?_;refine bx a #[J _ 0,J _ 0] (λjO hR a=>?_);refine a' a 0 (av _) (λiZ a=>?_);refine an ?_;first|refine wpIn_skip ?_|skip
  simp only[Exit.then];refine BB a 5 p1 (λks a=>?_);replace a:aj _ _ _ [ai jO _ 35,ai r _ 32,ai s _ 35,ai v _ 22,ai j _ 5,obj l _,F]:=a;have kK:=adQ L;obtain⟨vU,o9,Fj,IG,TH,MU⟩:=G x kK;obtain⟨N,C⟩:=ex (pre.foldl (rdStep d o) (fq n 0));have Z:N.length=n:=by rw[<-C];exact TW f _ _ (λy hy=>G y (L.subset (List.mem_append_left _ hy))) rB
  have S:aE ((pre++[x]).foldl _ _=ie N _ _):=hid (by rw[XC,C];rfl);have PY:=hid Z;rw[C]at a;clear C Z kK;obtain⟨q,X⟩:=ex (x.1*d.size);have Y:(x.1:Int)*(d.size:Int)=(q:Int):=ae;rw[X]at vU TH S;have PV:=hid Y;have Al:=IM f MU;have H:=hid Al;clear X Y Al L;repeat((fail_if_success (with_reducible refine at_region ?_));gi_step)
  refine ke ?_;refine pl a 1 0 ?_;refine ah ?_;refine a6 (va _ _ MU (z.out.aH a.only)) ?_;rintro e lf ⟨mS,V,rfl,I⟩;replace a:=a.new _ I;refine ba ?_;refine v5 ?_;refine an ?_;repeat((fail_if_success (with_reducible refine at_region ?_));gi_step)
  refine ke ?_;refine ah ?_;refine pk (ak au) ?_;refine an ?_;repeat((fail_if_success (with_reducible refine at_region ?_));gi_step)
  refine Uu a [15,19] (λi _=>match i with|15=>J R (d.size:Int)|19=>J R (x.2.2:Int)|_=>aY) (λ_=>λ|19=>ai j (aX a8 (ie N (x.2.1 -o) (((mO d x.1).drop (x.2.1 -q)).take x.2.2)) []) 5|_=>emp) (λ|19=>[5]|_=>[]) (λ|0=>[4]|2=>[1]|4=>[3]|8=>[1]|12=>[1]|14=>[2]|18=>[0]|19=>[0]|_=>[]) (λ_=>[]) [0,1,2,3,4,6,7,23,27] (λk=>?_);refine dl 0 0 ?_;refine aK ?_;refine dl 0 0 ?_;refine aK ?_;refine dl 0 0 ?_;refine aL _ (λ_ _ _=>pK 3 _ _ 3 aa _ _ ((x.2.1 -o:Nat):Int) aa aa ae ae ae) ?_;refine aL _ (λ_ _ _=>aeS 22 5 _ (bb 41) aa dI aS j n n _ (n -(x.2.1 -o)) aa aa ae ae ae) ?_;refine aK ?_;refine dl 0 1 ?_;refine aL _ (λ_ _ _=>qY 22 5 1 _ _ aa dI aS _ _ _ x.2.2 aa aa ae) ?_;refine bp ?_;refine dl 0 0 ?_;refine aK ?_;refine dl 0 0 ?_;refine df (λwl Fr a=>(wY B m d _ (z.out.aH a.only).dev f).mono ?_) ?_;·rintro e dm ⟨rfl,g⟩;exact⟨{},aa,(a.aH g).dS⟩
  refine aL _ (λ_ _ _=>nH 3 _ _ 3 aa _ _ _ aa aa PV ae ae) ?_;refine aL _ (λ_ _ _=>pK 3 _ _ 3 aa _ _ ((x.2.1 -q:Nat):Int) aa aa ae ae ae) ?_;refine aL _ (λ_ _ a=>AL 22 5 1 (bb 46) _ aa dI aS mS d.size V _ (d.size -(x.2.1 -q)) aa aa ae (by have:=(a.lr 0).2.2;rw[H]at this;exact this)) ?_;refine D' (J R (x.2.2:Int)) (λ_ _ a=>auv aa aa aa (a.aZ 0) (by have h:=((a.lr 1).1.FI (c:=V) (i:=x.2.1 -q) (a.lr 1).2.2).cells;rw[vh,H]at h;exact h) ae Fj (by rw[j7,PY];omega) (vT _) (show _=aX a8 _ []from akg (by rw[vh,H];omega)) dI aS) ?_;refine bQ λmm a=>?_;replace a:=a.drop 7;repeat gi_step
  have E:=a.pk [2,3,4,7,5,6];replace E:aj _ _ _ [bO [ai r _ 32,ai s _ 35,ai v _ 22,ai j _ 5],obj l _,F]:=E.fB 4;refine⟨_,?_,E⟩;exact(by show _=_;rw[S])
 .rintro D t u W rfl hu a;replace a:=a.lE;replace a:=(a.pk [6,0,1,2,3,4,5]).lE;go_step;refine ag ?_;refine pl a 4 0 ?_;refine a' a 1 (ad _ n n) (λnX a=>?_);refine a' a 0 (J _ 0) (λpd a=>?_);refine an ?_;have hlen:(xs.foldl (rdStep d o) (fq n 0)).length=n:=by rw[<-Q];exact AF f K
  go_wp2_with fail;refine yU a 7 (λw' a=>⟨aec aa aa (a.aZ 1) aw aa (a.aZ 0) aw,?_⟩);have P:=aj.ak7 a 5;rw[hlen,<-Q]at P;exact⟨_,n,aa,P.fresh 5⟩
 .simp
end
section
open Go.RowKit Go.MapKept
section
variable {P:eu} {o:Oper} {a:Act} {w:aM}
def auw {d x} {f v l c q g cap m c2:Nat} {A aJ bs news} (D:o.op=.call {callee:=.builtin .copy,args:=#[d,x],argTypes:=#[f,v]}) (p:a.eval d=ad (fE A c q 1) g cap) (G:a.eval x=ad aJ m c2) (j:e2 0 w A c bs) (hr:Cells w 1 aJ m (news.map a8)) (M:m<=g) (z:0<m) (L:q+m<=bs.length)
 (hu:P.underlying f=ab (hT l)) (hs:(P.info? l).map (·.size)=ab 1):
 ∃w',(bt a.eval o).run P w=a7 (c8 (J R (m:Int))) w'/\Turned w w' (cc A c bs) (cc A c (ie bs q news)):=by
 obtain⟨y,rfl,F⟩:=hr.2 z;have hcs:=by simpa using hr.1
 obtain⟨b,off,rfl,hc⟩:=j.1 ae;obtain⟨_,cur,hb⟩:=j.2.1 b off af aa;have hlc:=j.2.2;have H:fE (ab (⟨b,off,af⟩:bU)) c q 1=ab ⟨b,off+q,af⟩:=by grind[fE,nG]
 rw[H]at p;have r:∀k,k<bs.length->cur[off+k]?=ab (a8 (bs[k]?.getD 0)):=λk hk=>by grind[World.cell?]
 have hsz:off+bs.length<=cur.size:=by have h1:=r (bs.length -1) ae;obtain⟨n,_⟩:=pj.1 h1;omega
 have hr:=JX (P:=P) w f v o.type _ b (off+q) g cap y m c2 _ 5 _ hu hs hb aF F aF (vT _);have B:(news.map a8).length=m:=aF;have C:=hb.setRow (cur.toList.take (off+q)++news.map a8++cur.toList.drop (off+q+m)).toArray;have E:(ie bs q news).length=bs.length:=Az ae;refine⟨w.setRow b (cur.toList.take (off+q)++news.map a8++cur.toList.drop (off+q+m)).toArray,?_,(ar.setRow w b _).mono (λi _ h=>⟨off,af,by rw[h]⟩),⟨λ_=>⟨b,off,rfl,λk hk=>?_⟩,λeY I K e=>?_,ae⟩,λi hi=>⟨?_,bH hi⟩⟩;·unfold bt;simp only[D,mX,invoke,builtin,gj,jR,ji,og,jx,kC,p,G,hr,B];rfl
 .rw[E]at hk;refine C.cell _ ?_;have s:=r k hk;rw[<-Array.getElem?_toList]at s;rw[zG];have t:(cur.toList.take (off+q)).length=off+q:=aF;have u:(bs.take q).length=q:=aF;unfold ie;rcases XM k q with h1|h1;·grind[tD]
  .rcases XM k (q+m)with n|n;·rw[j5,oe ae,t,tD ae,j5,oe ae,u,tD ae,show off+k -(off+q)=k -q by omega,List.getElem?_map,cj ae];rfl
   .rw[oe aF,dv,t,gU,hcs,DP,show off+q+m+(off+k -(off+q+m))=off+k by omega,s,
     oe aF,dv,u,hcs,DP,show q+m+(k -(q+m))=k by omega]
 .grind
 .obtain⟨I,K,e⟩:=hi;grind
end
def mn(o:Nat)(bs:List Int)(st:Int×dL)(x:Nat×Nat×Nat):Int×dL:=
 if st.1≠0 then st else jC st.2 (x.1:Int) (ie (mO st.2 x.1) (x.2.1 -x.1*st.2.size) ((bs.drop (x.2.1 -o)).take x.2.2))
def ma(d:dL)(o:Nat)(bs:List Int):Int×dL:=(oI d.size o bs.length).foldl (mn o bs) (0,d)
def NC{o bs}:∀(l:List (Nat×Nat×Nat)) st,st.1≠0->l.foldl (mn o bs) st=st
 |[],_,_=>aa
 |x::l,st,h=>by rw[zF,show mn o bs st x=st by unfold mn;rw[if_pos h]];exact NC l st h
def awq{d}{n:Nat}{b}:(jC d (n:Int) b).2.size=d.size/\(jC d (n:Int) b).2.cnt=d.cnt:=by
 unfold jC;split;·simp
 .split;·simp
  .split;·exact⟨aa,aa⟩
   .split;·exact⟨aa,aa⟩
    .exact⟨aa,aa⟩
def awr{d}{n:Nat}{b}(h:(jC d (n:Int) b).1=0):(jC d (n:Int) b).2.down=d.down/\(jC d (n:Int) b).2.cache.length<=d.cache.length+1:=by
 unfold jC at h⊢;split at h;·omega
 .rename_i c;rw[if_neg c];split at h;·omega
  .rename_i h1;rw[if_neg h1];split at h;·rename_i a;rw[if_pos a];exact⟨aa,by show(d.cache++[(_,b)]).length<=_;simp⟩
   .rename_i a;rw[if_neg a];split at h;·rename_i e;rw[if_pos e];exact⟨aa,by show(d.cache++[(_,b)]).length<=_;simp⟩
    .omega
structure DV (d cD:dL) (k:Nat):Prop where
 ok:dR cD
 size:cD.size=d.size
 cnt:cD.cnt=d.cnt
 down:cD.down=au
 ek:cD.cache.length<=d.cache.length+k
def DV.step{d cD k o bs x}(h:DV d cD k)(hk:d.cache.length+k<1073741824)(hx:(mn o bs (0,cD) x).1=0):DV d (mn o bs (0,cD) x).2 (k+1):=by unfold mn at hx⊢;rw[if_neg aT]at hx⊢;have h1:=h.ek;have a:=awr hx;have b:=@awq cD x.1 (ie (mO cD x.1) (x.2.1 -x.1*cD.size) ((bs.drop (x.2.1 -o)).take x.2.2));exact⟨Ux h.ok _ _ ae,b.1.trans h.size,b.2.trans h.cnt,a.1.trans h.down,eC a.2 aF⟩
def ZD B m d(o p)A c bs w(hs:Has w (aN B m d))(s:dR d)(cZ:d.down=au)(hn:o+bs.length<=d.bytes.length)(hf:d.cache.length<=1000000000)(hp:w.cell? ⟨p,0,af⟩=ab (ad A bs.length c))(yL:¬(aN B m d).c5 p)(hb:bR w A bs)(RV:∀y,dU A y->¬(aN B m d).c5 y):
 aD ax 291 #[dh B,J R (o:Int),ad (ab ⟨p,0,af⟩) 1 1] w λe w'=>e=aA (J R (ma d o bs).1)/\∃f,Turned w w' (aN B m d) (aN B f (ma d o bs).2):=by
 have hbl:d.bytes.length<=1048576:=by rw[s.len];exact s.small
 have hs1:=s.mj;have hs2:d.size<=d.bytes.length:=by rw[s.len];exact GO _ s.vr
 have mZ:aE (∀x∈oI _ o _,GQ d o _ x):=hid (λx hx=>TR s hn hx);obtain⟨xs,Z⟩:=ex (oI d.size o bs.length);have iI:xs.length<=d.bytes.length+1:=by rw[<-Z,oI,gU,DR];unfold fg;split;exact cQ _;exact zK (eC (GP _ _) (eC (zH _ _) ae))
 have wK:=hid iI;have iC:∀bX G,yd ax 280 #[ay (ab ⟨bX,0,af⟩),ay (ab ⟨G,0,af⟩)] (λx:Nat×Nat×Nat=>#[J R (x.1:Int),gI ((x.2.1:Int),(x.2.2:Int))]) w (aN B m d).c5 (both (ai bX #[J R (d.size:Int)] 3) (ai G #[J R (o:Int),J R (bs.length:Int)] 35)) (λ_=>True) xs:=λbX G=>by grind[adA]
 have Xs:aE (ma d o bs=xs.foldl (mn o bs) (0,d)):=hid (by grind[ma]);rw[Z]at mZ;have lq:aE (∀W,Has W _->aD _ _ #[dh B,av #[J _ (o:Int),J _ (bs.length:Int)]] W λe w'=>e=aA _/\aq W w'):=hid (λW h=>Zo B m d o _ W h.dev s hn);clear Z iI;have bI:=hid (λW g=>G6 p A c bs W (g.cell hp yL) (hb.only g (λb off e=>RV b ⟨_,_,e⟩)) ae);clear hp hb yL RV;refine BH func291 aa ?_;simp only[ntmps291,iQ,jT,l2,qf,qg,qv,qu,nd,pB];have a:=aj.start hs;go_step;refine ag ?_;refine bM a (ay _) (λH w1 a=>?_);refine bM a (J _ _) (λI aR a=>?_);refine bx a #[J _ 0] (λK bL a=>?_);refine an ?_;go_step;refine ag ?_;refine ah ?_;refine a6 (bI _ a.only) ?_;rintro e ca ⟨n,k,rfl,hrow,g⟩;replace a:=a.js g (Row.nV hrow);refine ba ?_;refine bx a #[ad _ 0 0] (λL cF a=>?_);refine a' a 0 (ad n _ k) (λc6 a=>?_);refine an ?_;go_step;refine ag ?_;refine pl a 3 0 ?_;refine pl a 0 0 ?_;refine v2 ?_;refine bx a #[J _ 0,J _ 0] (λeW dW a=>?_);refine a' a 0 (av _) (λdG a=>?_);refine an ?_;go_step;refine ag ?_;refine pl a 5 0 ?_;refine bq a 0 #[J R (o:Int),J R (bs.length:Int)] ?_;refine a6 (lq _ (a.has 6)) ?_;rintro e e8 ⟨rfl,g⟩;replace a:=a.aH g;refine ba ?_;refine ah ?_;refine an ?_;go_step;refine ag ?_;refine ah ?_;refine pk (ak au) ?_;refine an ?_;go_step;refine ct ?_;refine bN a [1,3] (λi u=>match i with|1=>J R (d.size:Int)|3=>dJ (ej 280) #[] #[ay (ab ⟨u.b,0,af⟩),ay (ab ⟨u.eY,0,af⟩)]|_=>aY) (λE=>λ|3=>both (ai (E 3).b #[J R (d.size:Int)] 3) (ai (E 3).eY #[J R (o:Int),J R (bs.length:Int)] 35)|_=>emp) (λ_=>[]) (λ|0=>[5]|1=>[6]|2=>[0]|_=>[]) (λ|3=>[3]|_=>[]) [0,1,2,3,4,5,6,8,10] (λE=>?_);refine dl 0 0 ?_;refine df (λwl Fr a=>(wY B m d _ (a.has 0).dev s).mono ?_) ?_;·rintro e dm ⟨rfl,g⟩;exact⟨{},aa,(a.aH g).dS⟩
 refine ea 0 #[J R (o:Int),J R (bs.length:Int)] ?_;refine df (λwl Fr a=>(adB d.size o _ _).mono ?_) ?_;·rintro e dm ⟨bX,G,rfl,V⟩;exact⟨{b:=bX,eY:=G},aa,a.new _ V⟩
 refine bQ λhR a=>?_;generalize (E 3).b=axg at a⊢;generalize (E 3).eY=axf at a⊢;replace a:=a.drop 7;go_wp2_with fail;have eM:aj _ _ _ [both _ _,bO [ai H #[ay _] 32,ai I #[J R _] 3,ai L _ 22,ai K _ 47,cc n k bs,aN B m d],bO [ai eW _ 35]]:=aj.D0 (a.pick [7,5,4,1,3,2,6,0]);refine Jc (encs:=(λx:Nat×Nat×Nat=>#[J R (x.1:Int),gI _])) aa (ll Tryz.func280 aS aa) (λ_=>aa) (iC _ _) (λpre t=>∃f cD,pre.foldl (mn o bs) (0,d)=(0,cD)/\DV d cD pre.length/\t=bO [ai H _ 32,ai I #[J R (o:Int)] 3,ai L _ 22,ai K #[J R 0] 47,cc n k bs,aN B f cD]) (λc pre t=>match c with|.ret=>∃f cD bo,bo≠0/\pre.foldl (mn o bs) (0,d)=(bo,cD)/\t=bO [ai H #[ay (ab ⟨B,0,af⟩)] 32,ai I #[J R (o:Int)] 3,ai L #[ad n bs.length k] 22,ai K #[J R bo] 47,cc n k bs,aN B f cD]|_=>False) (⟨m,d,aa,⟨s,aa,aa,cZ,cm _⟩,aa⟩) eM ?_ ?_ ?_;all_goals clear eM a
 .rintro l rd pre x W t F O p1 ⟨f,cD,C,r,rfl⟩ a;replace a:=a.lE;repeat((fail_if_success (with_reducible refine at_region ?_));gi_step)
  refine ke ?_;refine ah ?_;refine an ?_;repeat((fail_if_success (with_reducible refine at_region ?_));gi_step)
  refine ke ?_;refine bx a #[J _ 0,J _ 0] (λzg iZ a=>?_);refine a' a 0 (av _) (λks a=>?_);refine an ?_;first|refine wpIn_skip ?_|skip
  simp only[Exit.then];refine BB a 7 p1 (λlf a=>?_);replace a:aj _ _ _ [ai _ _ 35,ai H _ 32,ai I _ 3,ai L _ 22,ai K _ 47,cc n k bs,aN B f cD,obj l _,F]:=a;have kK:=adQ O;have hpl:=O.length_le;rw[dv,wO]at hpl;have Ag:d.cache.length+pre.length<1073741824:=by have:=wK.out;omega
  obtain⟨vU,o9,Fj,IG,TH,MU⟩:=mZ x kK;have ajB:=hid r;have ayX:=r.ek;have N:=r.ok;have hdd:=r.size;have hcc:x.1<cD.cnt:=by rw[r.cnt];exact MU
  have HF:j9 cD (x.1:Int)=0:=by rw[j9,if_neg (by rw[r.down];simp),if_neg ae]
  have va:aE (∀W,Has W _->aD ax 209 _ W λe w'=>∃az aC,e=aA (bg #[ad az d.size aC,J R 0])/\b3 W w' (cc az aC (mO cD x.1))):=hid (λW h=>(Y5 B f cD x.1 W h N).mono (λe w' hh=>aF));have qs:aE (∀W,Has W _->aD _ 51 #[dh B] W λe w'=>e=aA _/\aq W w'):=hid (λW h=>by have q:=wY B f cD W h.dev N;rw[hdd]at q;exact q);obtain⟨P,yF⟩:=ex (x.1*d.size);have rV:(x.1:Int)*(d.size:Int)=(P:Int):=ae;have Al:(mO cD x.1).length=d.size:=by grind[IM]
  obtain⟨z,nj⟩:=ex (ie (mO cD x.1) (x.2.1 -P) ((bs.drop (x.2.1 -o)).take x.2.2));have hst:mn o bs (0,cD) x=jC cD (x.1:Int) z:=by grind[mn]
  have X:(pre++[x]).foldl (mn o bs) (0,d)=jC cD (x.1:Int) z:=aF;rw[yF]at vU TH;have aao:((bs.drop (x.2.1 -o)).take x.2.2).length=x.2.2:=aF;have hL:z.length=d.size:=by grind[Az]
  obtain⟨bo,dq⟩:=ex ((jC cD (x.1:Int) z).1);obtain⟨M,jV⟩:=ex ((jC cD (x.1:Int) z).2);have Y:jC cD (x.1:Int) z=(bo,M):=aF;have sv:=hid (λW fJ dB h h2 h3=>by have q:=amU B f cD x.1 fJ dB z W h N ae h2 ae h3;rw[hL,dq,jV]at q;exact q);have PV:=hid rV;have DB:=hid Al;have zz:=hid nj;have eJ:=hid (hst.trans Y);rw[Y]at X;have Bd:=hid X;have axZ:=hid hdd;have ax0:=hid N;clear yF rV Al O nj hst Y dq jV C X hdd HF kK hcc aao hL r N;repeat((fail_if_success (with_reducible refine at_region ?_));gi_step)
  refine ke ?_;refine pl a 1 0 ?_;refine ah ?_;refine a6 (va _ (a.has 6)) ?_;rintro e mm ⟨S,U,rfl,V⟩;replace a:=a.new _ V;refine ba ?_;refine v5 ?_;refine an ?_;repeat((fail_if_success (with_reducible refine at_region ?_));gi_step)
  refine ke ?_;refine ah ?_;refine pk (ak au) ?_;refine an ?_;repeat((fail_if_success (with_reducible refine at_region ?_));gi_step)
  refine Uu a [5,18] (λi _=>match i with|5=>J R (d.size:Int)|18=>J R (x.2.2:Int)|_=>aY) (λ_=>λ|18=>cc S U (ie (mO cD x.1) (x.2.1 -P) ((bs.drop (x.2.1 -o)).take x.2.2))|_=>emp) (λ|18=>[0]|_=>[]) (λ|2=>[1]|4=>[2]|5=>[7]|8=>[0]|9=>[4]|11=>[1]|12=>[3]|14=>[6]|16=>[1]|17=>[6]|18=>[6]|_=>[]) (λ_=>[]) [1,2,3,4,5,6,7,8,9,15,28] (λE=>?_);refine bp ?_;refine dl 0 0 ?_;refine aK ?_;refine dl 0 0 ?_;refine df (λwl Fr a=>(qs _ (a.has 0)).mono ?_) ?_;·rintro e dm ⟨rfl,g⟩;exact⟨{},aa,(a.aH g).dS⟩
  refine aL _ (λ_ _ _=>nH 3 _ _ 3 aa _ _ _ aa aa PV ae ae) ?_;refine aL _ (λ_ _ _=>pK 3 _ _ 3 aa _ _ ((x.2.1 -P:Nat):Int) aa aa ae ae ae) ?_;refine aL _ (λ_ _ a=>AL 22 5 1 (bb 42) _ aa dI aS S d.size U _ (d.size -(x.2.1 -P)) aa aa ae (by have:=(a.lr 0).2.2;rw[DB]at this;exact this)) ?_;refine dl 0 0 ?_;refine aK ?_;refine dl 0 0 ?_;refine dl 0 0 ?_;refine aL _ (λ_ _ _=>pK 3 _ _ 3 aa _ _ ((x.2.1 -o:Nat):Int) aa aa ae ae ae) ?_;refine aL _ (λ_ _ a=>AL 22 5 1 (bb 51) (bb 55) aa dI aS n bs.length k (x.2.1 -o) (bs.length -(x.2.1 -o)) aa aa ae (a.lr 0).2.2) ?_;refine aK ?_;refine dl 0 1 ?_;refine aL _ (λ_ _ a=>qY 22 5 1 _ _ aa dI aS _ _ _ x.2.2 aa aa (by have:=(a.lr 0).2.2;omega)) ?_;refine D' _ (λ_ _ a=>auw aa aa aa (a.lr 0) (by have h:=(((a.lr 1).1.FI (c:=k) (i:=x.2.1 -o) (a.lr 1).2.2).FH (q:=x.2.2) aF).cells;rw[oT,vh,Nat.min_eq_left ae]at h;exact h) ae Fj (by rw[DB];omega) dI aS) ?_;refine bQ λnX a=>?_;replace a:=a.drop 9;rw[zz]at a;repeat((fail_if_success (with_reducible refine at_region ?_));gi_step)
  refine ke ?_;refine pl a 1 0 ?_;refine v2 ?_;refine a6 (sv.out _ S U (a.has 6) (a.lr 9).1 (a.ne (i:=9) (j:=6) aa aa bh)) ?_;rintro e pd ⟨rfl,Q,bF⟩;replace a:=a.eF 6 bF;refine ba ?_;refine ah ?_;refine an ?_;by_cases hz:bo=0
  .subst hz;repeat((fail_if_success (with_reducible refine at_region ?_));gi_step)
   refine ke ?_;refine ah ?_;refine pk (ak au) ?_;refine an ?_;repeat gi_step
   have v:=a.pk [1,2,3,4,5,6,7,8];replace v:aj _ _ _ [bO [ai _ _ 32,ai _ _ 3,ai _ _ 22,ai _ _ 47,cc n k bs,aN B Q M],obj l _,F]:=v.fB 6;refine⟨_,?_,v⟩;exact⟨Q,M,Bd,by rw[dv,wO];have h:=ajB.out.step (o:=o) (bs:=bs) (x:=x) Ag (by rw[eJ]);rw[eJ]at h;exact h,aa⟩
  .have Mh:=hz;repeat((fail_if_success (with_reducible refine at_region ?_));gi_step)
   refine ke ?_;refine ah ?_;refine aI (ak aB) (by(go_simp;try simp[Mh])) ?_;refine an ?_;repeat((fail_if_success (with_reducible refine at_region ?_));gi_step)
   refine ke ?_;refine ah ?_;refine a' a 4 (J _ bo) (λtc a=>?_);refine an ?_;repeat gi_step
   have v:=a.pk [1,2,3,4,5,6,7,8];replace v:aj _ _ _ [bO [ai H _ 32,ai I #[J R (o:Int)] 3,ai L _ 22,ai K #[J R bo] 47,cc n k bs,aN B Q M],obj l _,F]:=v.fB 6;refine⟨_,?_,v⟩;exact⟨Q,M,bo,hz,Bd,aa⟩
 .rintro D t u W ⟨f,cD,C,r,rfl⟩ hu a;replace a:=a.lE;replace a:=(a.pk [8,0,1,2,3,4,5,6,7]).lE;have T:=hid (Xs.out.trans C);clear C r;go_step;refine ag ?_;refine a' a 4 (J _ 0) (λtd a=>?_);refine an ?_;go_wp2_with fail;refine yU a 8 (λw' a=>⟨Ft aa aa (a.aZ 4) aw,?_⟩);rw[T];exact⟨aa,f,a.gi 6⟩
 .rintro D c pre t u W O h a;cases c with
  |ret=>
   obtain⟨f,cD,bo,hz,C,rfl⟩:=h;replace a:=a.lE;have T:aE (ma d o bs=(bo,cD)):=hid (by obtain⟨l,hl⟩:=O;rw[Xs,<-hl,XC,C];exact NC l _ hz);go_wp2_with fail;refine yU a 7 (λw' a=>⟨Ft aa aa (a.aZ 3) aw,?_⟩);rw[T];exact⟨aa,f,a.gi 5⟩
  |_=>exact h.elim
end
open Go.RowKit Go.MapKept
def bR.Yn{w A xs}(h:bR w A xs):Lib.BytesIn w A xs.length xs:=λa=>by obtain⟨b,o,e,hc⟩:=h a;grind
def preB(xs cn:List Int):Bool:=Lib.hasPrefix (FV xs) (FV cn)
def aoS b c1 xs aJ c2 cn w(h1:bR w b xs)(d:bR w aJ cn)(hc:xs.length<=c1):
 aD ax 282 #[ad b xs.length c1,ad aJ cn.length c2] w λe w'=>e=aA (ak (preB xs cn))/\w'=w:=by
 rcases lJ cn.length with a|a;·have h:=Any.bytes_HasPrefix_e2 Tryz.Td b aJ xs.length c1 c2 w;rw[a];obtain rfl:cn=[]:=jH a;exact h
 .rcases lJ xs.length with c|c
  .have h:=Any.bytes_HasPrefix_e1 Tryz.Td b aJ c1 cn.length c2 a w;rw[c];obtain rfl:xs=[]:=jH c;refine h.mono (λe w' ⟨f,g⟩=>⟨f.trans ?_,g⟩);cases cn with
   |nil=>omega
   |cons y cn=>rfl
  .obtain⟨eR,fa,rfl,i⟩:=h1.Yn.at c;obtain⟨eY,k,rfl,j⟩:=d.Yn.at a;exact Any.bytes_HasPrefix Tryz.Td eR fa _ c1 eY k _ c2 xs cn w aa aa hc i j
def rM(r:Rd)(m:List Int)(a:Int):Bool×Rd:=
 if r.bo=0 then
  if preB m ((r.bs.drop r.p).take (min m.length (r.bs.length -r.p)))=aB then
   if r.p+m.length<=r.bs.length then(aB,{r with p:=r.p+m.length})else(au,pJ r m.length)
  else(au,mD r a r.p)
 else(au,r)
def anE{r}(h:qw r)m a:qw (rM r m a).2:=by grind[rM,qw,KT,Hg]
def atV B A c r o u m f w(C:Has w (eo B A c r))(y:qw r)(N:bR w o m)(hcm:m.length<=u)(hne:∀b,dU o b->¬(eo B A c r).c5 b)(T:m.length<=1048576):
 aD ax 210 #[ay (ab ⟨B,0,af⟩),ad o m.length u,J R f] w λe w'=>e=aA (ak (rM r m f).1)/\Turned w w' (eo B A c r) (eo B A c (rM r m f).2):=by
 obtain⟨bs,p,bo,di⟩:=r;replace y:p<=bs.length/\bs.length<=140737488355328:=y;obtain⟨O,F⟩:=y;by_cases G:bo=0
 .subst G;obtain⟨k,I⟩:=ex (min m.length (bs.length -p));have S:k<=bs.length -p:=ae;have H:min (m.length:Int) ((bs.length -p:Nat):Int)=(k:Int):=ae;have D:=hid H;have hc:bs.length<=c:=C.1.2.1.2.2;obtain⟨iK,K⟩:=ex (preB m ((bs.drop p).take k));have v:=hid I;have x:=hid K;have L:aE (∀W,ar (eo B A c (⟨bs,p,0,di⟩:Rd)).c5 w W->bR W o m):=hid (λW g=>N.only g (λb off e=>hne b ⟨off,af,e⟩))
  have E:aE (∀W,ar (eo B A c (⟨bs,p,0,di⟩:Rd)).c5 w W->∀l j,aj w (eo B A c (⟨bs,p,0,di⟩:Rd)).c5 W l->l[j]?=ab (cc A c bs)->aD ax 282 #[ad o m.length u,ad (fE A c p 1) k (c -p)] W λe w'=>e=aA (ak iK)/\w'=W):=hid (λW g l j h M=>by have h1:=bR.win (aj.at h j M).1 hc (i:=p) (q:=p+k) ae;rw[Nat.add_sub_cancel_left]at h1;have Q:=aoS o u m _ (c -p) _ W (L W g) h1 hcm;grind);clear H I K;go_enter Tryz.func210,Tryz.ntmps210;have a:aj w (eo B A c ⟨bs,p,0,di⟩).c5 w [ai B #[ad A bs.length c,J R (p:Int),J R 0,J R di] 333,cc A c bs]:=(aj.start C).fh;go_step;refine ag ?_;refine cJ ?_;refine pk (ak au) ?_;refine v6 ?_;refine pl a 0 2 ?_;refine pk (ak au) ?_;refine pk (ak au) ?_;refine ct ?_;refine bN a [] (λ_ _=>aY) (λ_ _=>emp) (λ_=>[]) (λ|4=>[0]|9=>[0]|_=>[]) (λ_=>[]) [0,1] (λP=>?_);refine iw ?_;refine dl 0 0 ?_;refine iw ?_;refine dl 0 1 ?_;refine aL _ (λ_ _ _=>AL 22 5 1 _ _ aa dI aw A _ c p (bs.length -p) aa aa ae ae) ?_;refine aK ?_;refine bQ λw1 a=>?_;cases iK with
  |false=>
   refine ag ?_;refine v6 ?_;refine aI (J R (k:Int)) (by(have h:=D.out;go_simp;try rw[h])) ?_;refine aI _ (qY 22 5 1 _ _ aa dI aw _ _ _ k aa aa ae) ?_;refine a6 (E _ a.only _ 1 a aa) ?_;rintro e U ⟨rfl,rfl⟩;refine ba ?_;refine pk (ak aB) ?_;refine an ?_;have d:rM (⟨bs,p,0,di⟩:Rd) m f=(au,mD (⟨bs,p,0,di⟩:Rd) f p):=by unfold rM;rw[if_pos aa];show(if preB m ((bs.drop p).take (min m.length (bs.length -p)))=aB then _ else _)=_;rw[v,x];rfl
   have n:=hid d;clear d;refine ct ?_;refine bN a [9] (λi _=>match i with|9=>bg #[]|_=>aY) (λ_=>λ|9=>ai B (lD A c (mD (⟨bs,p,0,di⟩:Rd) f p)) 333|_=>emp) (λ|9=>[0]|_=>[]) (λ|8=>[0]|_=>[]) (λ_=>[]) [1,11] (λP=>?_);refine C3 ?_;refine dl 0 1 ?_;refine df (λwl Fr a=>(M8 B 333 A c (⟨bs,p,0,di⟩:Rd) f p _ (a.has 0)).mono ?_) ?_;·rintro e dm ⟨rfl,t⟩;exact⟨{},aa,a.y' t⟩
   refine bQ λV a=>?_;refine ag ?_;refine ah ?_;refine an ?_;go_wp2_with fail;go_ret;exact by rw[n];refine⟨aa,?_⟩;have h:=(a.pick (l':=[ai B (lD A c (mD (⟨bs,p,0,di⟩:Rd) f p)) 333,cc A c bs]) [1,0]).star;unfold eo;rw[(Hg _ _ _).1];exact aj.gi (s:=_) h 0
  |true=>
   refine ag ?_;refine v6 ?_;refine aI (J R (k:Int)) (by(have h:=D.out;go_simp;try rw[h])) ?_;refine aI _ (qY 22 5 1 _ _ aa dI aw _ _ _ k aa aa ae) ?_;refine a6 (E _ a.only _ 1 a aa) ?_;rintro e X ⟨rfl,rfl⟩;refine ba ?_;refine pk (ak au) ?_;refine an ?_;by_cases z:p+m.length<=bs.length
   .have d:rM (⟨bs,p,0,di⟩:Rd) m f=(aB,⟨bs,p+m.length,0,di⟩):=by unfold rM;rw[if_pos aa];show(if preB m ((bs.drop p).take (min m.length (bs.length -p)))=aB then _ else _)=_;rw[v,x,if_pos aa,if_pos z]
    have n:=hid d;clear d;refine ag ?_;refine v5 ?_;refine a6 (aeo B 333 A c (⟨bs,p,0,di⟩:Rd) _ _ (a.has 0) aa z hc F) ?_;rintro e Y ⟨rfl,t⟩;replace a:=a.eF 0 t;refine ba ?_;refine v5 ?_;refine ag ?_;refine dP ?_;go_wp2_with fail;go_ret;exact by rw[n];refine⟨aa,?_⟩;have h:=(a.pick (l':=[ai B (lD A c ⟨bs,p+m.length,0,di⟩) 333,cc A c bs]) [0,1]).star;exact aj.gi (s:=_) h 0
   .have d:rM (⟨bs,p,0,di⟩:Rd) m f=(au,pJ (⟨bs,p,0,di⟩:Rd) m.length):=by unfold rM;rw[if_pos aa];show(if preB m ((bs.drop p).take (min m.length (bs.length -p)))=aB then _ else _)=_;rw[v,x,if_pos aa,if_neg z]
    have n:=hid d;clear d;refine ag ?_;refine v5 ?_;refine a6 (aen B 333 A c (⟨bs,p,0,di⟩:Rd) m.length _ (a.has 0) O F ae (b1 (b1 aF))) ?_;rintro e Z ⟨rfl,t⟩;replace a:=a.eF 0 t;refine ba ?_;refine v5 ?_;refine ag ?_;refine dP ?_;go_wp2_with fail;go_ret;exact by rw[n];refine⟨aa,?_⟩;have h:=(a.pick (l':=[ai B (lD A c (pJ (⟨bs,p,0,di⟩:Rd) m.length)) 333,cc A c bs]) [0,1]).star;unfold eo;rw[(KT _ _).1];exact aj.gi (s:=_) h 0
 .have d:rM ⟨bs,p,bo,di⟩ m f=(au,⟨bs,p,bo,di⟩):=by grind[rM]
  have n:=hid d;clear d;go_enter Tryz.func210,Tryz.ntmps210;have a:aj w (eo B A c ⟨bs,p,bo,di⟩).c5 w [ai B #[ad A bs.length c,J R (p:Int),J R bo,J R di] 333,cc A c bs]:=(aj.start C).fh;go_step;refine ag ?_;refine cJ ?_;refine pk (ak au) ?_;refine v6 ?_;refine pl a 0 2 ?_;refine aI (ak aB) (by(go_simp;try simp[G])) ?_;refine pk (ak aB) ?_;refine ag ?_;refine ah ?_;refine an ?_;go_wp2_with fail;go_ret;exact by rw[n];exact⟨aa,aj.gi (s:=_) a.star 0⟩
structure Rec where
 seq:Int
 id:Int
 cur:Int
 off:Int
 data:List Int
abbrev recC(r:Rec)(A:Option bU)(c:Nat):Array Value:=#[J aG r.seq,J aG r.id,J R r.cur,J R r.off,ad A r.data.length c]
abbrev M7:Array Value:=#[J aG 0,J aG 0,J R 0,J R 0,ad af 0 0]
def kc(n:Int):Int:=if n<0\/n>1048576 then 0 else 40+n+4
def auW n:0<=kc n/\kc n<=1048620/\(kc n≠0->44<=kc n):=by grind[kc]
def sW:List Int:=[71,74,82,49]
structure ajJ where
 ok:Bool
 seq:Int
 id:Int
 cur:Int
 off:Int
 cnt:Int
 r:Rd
def HG(f:Rd):ajJ:=
 let e:=rM f sW 19
 let a:=k' e.2 8
 let b:=k' a.2 8
 let c:=p4 b.2
 let d:=p4 c.2
 let n:=k' d.2 4
 ⟨e.1,a.1,b.1,c.1,d.1,n.1,n.2⟩
def tS(bs:List Int):Option Rec:=
 let h:=HG ⟨bs.take (min bs.length 40),0,0,0⟩
 if h.ok=au then af
 else if¬(h.r.bo=0/\h.r.di=0)\/kc (R.wrap h.cnt)=0\/(bs.length:Int)<kc (R.wrap h.cnt)then af
 else(sZ (bs.take (kc (R.wrap h.cnt)).toNat)).map (λall=>⟨h.seq,h.id,h.cur,h.off,all.drop 40⟩)
def wrap_i64 z:-9223372036854775808<=R.wrap z:=by grind[Dj,Di]
def acW A c bs w(l:bs.length<=140737488355328)(hb:bR w A bs):
 aD ax 134 #[ad A bs.length c] w λe w'=>∃B a d,e=aA (ay (ab ⟨B,0,af⟩))/\b3 w w' (eo B a d ⟨bs,0,0,0⟩):=
 (arO A c bs w l hb).mono (λ_ _ ⟨B,a,d,k,lo,hr,j,m,g⟩=>⟨B,a,d,k,g,⟨hr,j.le (cQ _),λb h1 f=>m (by have i:b=B:=h1;exact i▸f)⟩,λb hb2=>hb2.elim (λh=>by have i:b=B:=h;rw[i];exact⟨lo,aW.lt hr⟩) (λ⟨off,n,e⟩=>by obtain⟨h1,cs,f⟩:=j.2.1 b off n e;exact⟨h1,aW.lt f⟩)⟩)
def ael n w(d:-9223372036854775808<=n):
 aD ax 199 #[J R n] w λe w'=>e=aA (J R (kc n))/\aq w w':=by
 by_cases h1:n<0
 .have a:kc n=0:=by grind[kc]
  rw[a];clear a;go_enter Vo,VS;have b:=bf w;go_step;refine ag ?_;refine cJ ?_;refine cb (ak aB) ?_;refine ah ?_;iterate 2 refine ps ?_
  refine pk (ak aB) ?_;refine ag ?_;refine ah ?_;refine an ?_;go_wp2_with fail;go_ret;exact⟨aa,b.only⟩
 by_cases c:n>1048576
 .have a:kc n=0:=by grind[kc]
  rw[a];clear a;go_enter Vo,VS;have b:=bf w;go_step;refine ag ?_;refine cJ ?_;refine cb (ak au) ?_;iterate 2 refine ah ?_
  refine cb (ak aB) ?_;refine pk (ak aB) ?_;refine ag ?_;refine ah ?_;refine an ?_;go_wp2_with fail;go_ret;exact⟨aa,b.only⟩
 .have a:kc n=40+n+4:=by grind[kc]
  rw[a];clear a;go_enter Vo,VS;have b:=bf w;go_step;refine ag ?_;refine cJ ?_;refine cb (ak au) ?_;iterate 2 refine ah ?_
  refine cb (ak au) ?_;refine pk (ak au) ?_;refine b4 ?_;refine pad 40 n (40+n) ?_;refine pad _ 4 (40+n+4) ?_;refine bP ?_;go_wp2_with fail;go_ret;exact⟨aa,b.only⟩
def asl{bs d:List Int}{n}(h:sZ (bs.take n)=ab d)(b:44<=n)(a:n<=bs.length):40<=d.length:=by grind[sZ]
def e2.FI{w A c i N bs}(h:e2 N w A c bs):e2 N w (fE A c i 1) (c -i) (bs.drop i):=
 ⟨h.1.FI h.2.2,h.2.1.win,by have:=h.2.2;simp;omega⟩
def atB A c bs w(hl:bs.length<=17592186044416)(hc:bs.length<=c)(hb:bR w A bs):
 aD ax 132 #[ad A bs.length c] w λe w'=>(∃r,tS bs=ab r/\∃y C,e=aA (bg #[av (recC r y C),J R 0])/\b3 w w' (cc y C r.data))\/(tS bs=af/\e=aA (bg #[av M7,J R 19])/\aq w w'):=by
 obtain⟨u,dZ⟩:=ex (min bs.length 40);have gw:aE (min (bs.length:Int) 40=(u:Int)):=hid ae;have apj:u<=40/\u<=bs.length:=ae;have N:aE (tS bs=(let h:=HG ⟨bs.take u,0,0,0⟩;if h.ok=au then af else if¬(h.r.bo=0/\h.r.di=0)\/kc (R.wrap h.cnt)=0\/(bs.length:Int)<kc (R.wrap h.cnt)then af else(sZ (bs.take (kc (R.wrap h.cnt)).toNat)).map (λall=>⟨h.seq,h.id,h.cur,h.off,all.drop 40⟩))):=hid (by rw[<-dZ];rfl);clear dZ;obtain⟨s,Z⟩:∃s:Rd,(⟨bs.take u,0,0,0⟩:Rd)=s:=⟨_,aa⟩;have h0:qw s:=by rw[<-Z];exact⟨cQ _,aF⟩
 have hb0:s.bs=bs.take u:=aF;have apN:=Z;rw[Z]at N;have T:=anE h0 sW 19;obtain⟨O,x,h1⟩:∃O x,rM s sW 19=(O,x):=⟨_,_,aa⟩;rw[h1]at T;have U:=Ns T 8;have hg2:=I6 x 8;obtain⟨v2,G,D⟩:∃v r,k' x 8=(v,r):=⟨_,_,aa⟩;rw[D]at U hg2;have V:=Ns U 8;have hg3:=I6 G 8;obtain⟨v3,H,h3⟩:∃v r,k' G 8=(v,r):=⟨_,_,aa⟩;rw[h3]at V hg3;have X:=acC V;have hg4:=acD H;obtain⟨v4,I,h4⟩:∃v r,p4 H=(v,r):=⟨_,_,aa⟩;rw[h4]at X hg4;have Y:=acC X;have qI:=acD I;obtain⟨v5,K,h5⟩:∃v r,p4 I=(v,r):=⟨_,_,aa⟩;rw[h5]at Y qI;have abl:=Ns Y 4;have w7:=I6 K 4;obtain⟨v6,L,h6⟩:∃v r,k' K 4=(v,r):=⟨_,_,aa⟩;rw[h6]at abl w7;have aaO:HG s=⟨O,v2,v3,v4,v5,v6,L⟩:=by grind[HG]
 rw[aaO]at N;have H1:aE (∀B A c W,Has W (eo B A c s)->∀M S,bR W M sW->4<=S->(∀b,dU M b->¬(eo B A c s).c5 b)->aD ax 210 #[ay (ab ⟨B,0,af⟩),ad M 4 S,J R 19] W λe w'=>e=aA (ak O)/\Turned W w' (eo B A c s) (eo B A c x)):=hid (λB A c W h M S eh fm ly=>by have q:=atV B A c s M S sW 19 W h h0 eh fm ly bh;rw[h1]at q;exact q);have eL:aE (∀B A c W,Has W (eo B A c x)->aD ax 135 #[ay (ab ⟨B,0,af⟩),J R 8] W λe w'=>e=aA (J aG v2)/\Turned W w' (eo B A c x) (eo B A c G)):=hid (λB A c W h=>by have q:=IU B A c x 8 W h T ae;rw[D]at q;exact q);have iA:aE (∀B A c W,Has W (eo B A c G)->aD ax 135 #[ay (ab ⟨B,0,af⟩),J R 8] W λe w'=>e=aA (J aG v3)/\Turned W w' (eo B A c G) (eo B A c H)):=hid (λB A c W h=>by have q:=IU B A c G 8 W h U ae;rw[h3]at q;exact q);have hU:aE (∀B A c W,Has W (eo B A c H)->aD ax 211 #[ay (ab ⟨B,0,af⟩)] W λe w'=>e=aA (J R v4)/\Turned W w' (eo B A c H) (eo B A c I)):=hid (λB A c W h=>by have q:=aeh B A c H W h V;rw[h4]at q;exact q);have hC:aE (∀B A c W,Has W (eo B A c I)->aD ax 211 #[ay (ab ⟨B,0,af⟩)] W λe w'=>e=aA (J R v5)/\Turned W w' (eo B A c I) (eo B A c K)):=hid (λB A c W h=>by have q:=aeh B A c I W h X;rw[h5]at q;exact q);have qm:aE (∀B A c W,Has W (eo B A c K)->aD ax 135 #[ay (ab ⟨B,0,af⟩),J R 4] W λe w'=>e=aA (J aG v6)/\Turned W w' (eo B A c K) (eo B A c L)):=hid (λB A c W h=>by have q:=IU B A c K 4 W h Y ae;rw[h6]at q;exact q);obtain⟨⟨bo,di⟩,gJ⟩:∃p:Int×Int,(L.bo,L.di)=p:=⟨_,aa⟩;simp only[oh]at gJ;obtain⟨dq,Ex⟩:=gJ;have P:aE (∀B A c W,Has W (eo B A c L)->aD ax 212 #[ay (ab ⟨B,0,af⟩)] W λe w'=>e=aA (av #[J R bo,J R di])/\aq W w'):=hid (λB A c W h=>by have q:=atY B A c L W h;rw[dq,Ex]at q;exact q);simp only[dq,Ex]at N;have ay7:0<=v6/\v6<18446744073709551616:=w7;clear hb0;clear h0 h1 D h3 h4 h5 h6 T U V X Y abl hg2 hg3 hg4 qI w7 aaO dq Ex Z
 have ri:aE (∀W,aq w W->aD ax 134 #[ad A u c] W λe w'=>∃B y C,e=aA (ay (ab ⟨B,0,af⟩))/\b3 W w' (eo B y C s)):=hid (λW g=>by have q:=acW A c (bs.take u) W aF (bR.FH (hb.aH g) apj.2);grind)
 have du:aE (∀W,aq w W->∀n:Nat,(n:Int)<=1048620->n<=bs.length->aD ax 213 #[ad A n c] W λe w'=>(∃d y C,sZ (bs.take n)=ab d/\e=aA (bg #[ad y d.length C,ak aB])/\e2 W.heap.size w' y C d/\aq W w')\/(sZ (bs.take n)=af/\e=aA (bg #[ad af 0 0,ak au])/\aq W w')):=hid (λW g n h1 D=>by have q:=asn A c (bs.take n) W aF aF (bR.FH (hb.aH g) D);grind);clear hb apN;go_enter func132,ntmps132;have a:=bf w;go_upto_region 0 with fail;refine wp_region_lit ?_;refine bx a #[J aG 0,J aG 0,J R 0,J R 0,ad af 0 0] (λcy w1 a=>?_);refine dQ ?_;iterate 3 refine ah ?_
 refine aI (J R (u:Int)) (by(have h:=gw.out;go_simp;try rw[h])) ?_;refine aI _ (qY 22 5 1 _ _ aa dI aw A _ c u aa aa ae) ?_;refine a6 (ri.out _ a.only) ?_;rintro e aR ⟨o,m,c1,rfl,hf⟩;replace a:=a.new _ hf;refine FM ?_;cases O with
 |false=>
  refine b4 ?_;refine f' a #[J d' 71,J d' 74,J d' 82,J d' 49] 5 (λC7 bL a=>?_);refine CG a 0 (Fg sW aa aa (a.aZ 0) aa dI lj) (λca a=>?_);refine a6 (H1.out o m c1 _ (a.has 1) _ 4 (a.at 0) (cm _) (λb hb=>a.ne (i:=0) (j:=1) aa aa bh b hb)) ?_;rintro e cF ⟨rfl,k⟩;replace a:=a.eF 1 k;refine ba ?_;refine pk (ak aB) ?_;refine b4 ?_;refine a' a 2 (av #[J aG 0,J aG 0,J R 0,J R 0,ad af 0 0]) (λc6 a=>?_);refine bP ?_;go_wp2_with fail;refine dn (v:=_) (mP aa aa aa (a.aZ 2) aw aw) aa (b1 ⟨by rw[N.out];rfl,aa,a.only⟩)
 |true=>
  refine b4 ?_;refine f' a #[J d' 71,J d' 74,J d' 82,J d' 49] 5 (λC7 dW a=>?_);refine CG a 0 (Fg sW aa aa (a.aZ 0) aa dI lj) (λdG a=>?_);refine a6 (H1.out o m c1 _ (a.has 1) _ 4 (a.at 0) (cm _) (λb hb=>a.ne (i:=0) (j:=1) aa aa bh b hb)) ?_;rintro e e8 ⟨rfl,k⟩;replace a:=a.eF 1 k;refine ba ?_;refine pk (ak au) ?_;refine b4 ?_;refine a6 (eL.out o m c1 _ (a.has 1)) ?_;rintro e hR ⟨rfl,k⟩;replace a:=a.eF 1 k;refine ba ?_;refine ah ?_;refine a6 (iA.out o m c1 _ (a.has 1)) ?_;rintro e iZ ⟨rfl,k⟩;replace a:=a.eF 1 k;refine ba ?_;refine ah ?_;refine a6 (hU.out o m c1 _ (a.has 1)) ?_;rintro e ks ⟨rfl,k⟩;replace a:=a.eF 1 k;refine ba ?_;refine ah ?_;refine a6 (hC.out o m c1 _ (a.has 1)) ?_;rintro e lf ⟨rfl,k⟩;replace a:=a.eF 1 k;refine ba ?_;refine ah ?_;refine bx a #[J aG 0,J aG 0,J R 0,J R 0,ad af 0 0] (λeK mm a=>?_);refine a' a 0 (av #[J aG v2,J aG v3,J R v4,J R v5,ad af 0 0]) (λnX a=>?_);refine an ?_;obtain⟨l,Mg⟩:=ex (R.wrap v6);have aqd:-9223372036854775808<=l:=by rw[<-Mg];exact wrap_i64 _
  have Q:aE (tS bs=if¬(bo=0/\di=0)\/kc l=0\/(bs.length:Int)<kc l then af else(sZ (bs.take (kc l).toNat)).map (λall=>⟨v2,v3,v4,v5,all.drop 40⟩)):=hid (by rw[<-Mg];exact N.out);have ajH:=hid Mg;clear Mg;refine b4 ?_;refine a6 (qm.out o m c1 _ (a.has 2)) ?_;rintro e pd ⟨rfl,k⟩;replace a:=a.eF 2 k;refine ba ?_;refine aI (J R l) (by(have h:=ajH.out;go_simp;try rw[h])) ?_;refine bA (ael l _ aqd) a (λtc a=>?_);refine bP ?_;have ab1:=auW l;have qs:aE (kc l=kc l):=hid aa;by_cases hF:bo=0/\di=0
  .obtain⟨rfl,rfl⟩:=hF;by_cases lR:kc l=0
   .have F:=hid lR;refine b4 ?_;refine bA (P.out o m c1 _ (a.has 2)) a (λtd a=>?_);refine ah ?_;refine aI _ (by(go_simp;try rfl)) ?_;iterate 2 refine ah ?_
    refine dr F (ak aB) ?_;refine pk (ak aB) ?_;refine ah ?_;iterate 4 refine ps ?_
    refine cJ ?_;refine a' a 3 (av #[J aG 0,J aG 0,J R 0,J R 0,ad af 0 0]) (λxD a=>?_);refine bP ?_;go_wp2_with fail;refine dn (v:=_) (mP aa aa aa (a.aZ 3) aw aw) aa (b1 ⟨by rw[Q.out];rw[if_pos (b1 (bH F.out))],aa,a.only⟩)
   .by_cases yz:(bs.length:Int)<kc l
    .have F:=hid lR;refine b4 ?_;refine bA (P.out o m c1 _ (a.has 2)) a (λAS a=>?_);refine ah ?_;refine aI _ (by(go_simp;try rfl)) ?_;iterate 2 refine ah ?_
     refine aI (ak au) (by(have h:=F.out;go_simp;first|done|(simp[h];done)|omega)) ?_;refine pk (ak au) ?_;iterate 4 refine ah ?_
     refine cb (ak aB) ?_;refine pk (ak aB) ?_;refine b4 ?_;refine a' a 3 (av #[J aG 0,J aG 0,J R 0,J R 0,ad af 0 0]) (λCZ a=>?_);refine bP ?_;go_wp2_with fail;refine dn (v:=_) (mP aa aa aa (a.aZ 3) aw aw) aa (b1 ⟨by rw[Q.out];rw[if_pos (b1 (b1 yz))],aa,a.only⟩)
    .have F:=hid lR;obtain⟨n,hn⟩:∃n:Nat,kc l=n:=⟨(kc l).toNat,ae⟩;have dp:=hid hn;have Sv:n<=bs.length:=ae;have apB:44<=n:=ae;have nj:(n:Int)<=1048620:=ae;refine b4 ?_;refine bA (P.out o m c1 _ (a.has 2)) a (λC0 a=>?_);refine ah ?_;refine aI _ (by(go_simp;try rfl)) ?_;iterate 2 refine ah ?_
     refine aI (ak au) (by(have h:=F.out;go_simp;first|done|omega|omega)) ?_;refine pk (ak au) ?_;iterate 4 refine ah ?_
     refine cb (ak au) ?_;refine pk (ak au) ?_;refine an ?_;have ay8:=du.out;clear hn;have fM:aE (tS bs=(sZ (bs.take n)).map (λall=>⟨v2,v3,v4,v5,all.drop 40⟩)):=hid (by rw[Q.out,if_neg ae,dp.out];rfl);rcases hop:sZ (bs.take n)with _|d
     .have E:=hid hop;clear hop;refine b4 ?_;refine aI (J R (n:Int)) (by(have h:=dp.out;go_simp;try rw[h])) ?_;refine aI _ (qY 22 5 1 _ _ aa dI aw A _ c n aa aa ae) ?_;refine a6 (du.out _ a.only n nj Sv) ?_;rintro e FG (⟨d,_,_,t,_⟩|⟨_,rfl,g⟩);·rw[E.out]at t;cases t
      replace a:=a.aH g;refine ba ?_;iterate 5 refine ah ?_
      refine b4 ?_;refine pk (ak aB) ?_;refine b4 ?_;refine a' a 3 (av #[J aG 0,J aG 0,J R 0,J R 0,ad af 0 0]) (λI' a=>?_);refine bP ?_;go_wp2_with fail;refine dn (v:=_) (mP aa aa aa (a.aZ 3) aw aw) aa (b1 ⟨by rw[fM.out,E.out];rfl,aa,a.only⟩)
     .have E:=hid hop;have iG:40<=d.length:=asl hop apB Sv;clear hop;refine b4 ?_;refine aI (J R (n:Int)) (by(have h:=dp.out;go_simp;try rw[h])) ?_;refine aI _ (qY 22 5 1 _ _ aa dI aw A _ c n aa aa ae) ?_;refine a6 (du.out _ a.only n nj Sv) ?_;rintro e Un (⟨d2,z,f,t,rfl,oF,g⟩|⟨t,_⟩);rotate_left;·rw[E.out]at t;cases t
      rw[E.out]at t;injection t with t;subst t;replace a:=a.js g oF;refine ba ?_;iterate 5 refine ah ?_
      refine b4 ?_;refine pk (ak au) ?_;refine b4 ?_;refine aI (ad (fE z f 40 1) (d.length -40) (f -40)) (AL 22 5 1 (bb 59) (.const (J R 40)) aa dI aw z d.length f 40 (d.length -40) aa aa ae (a.lr 0).2.2) ?_;refine ah ?_;refine a' a 1 (ad (fE z f 40 1) (d.length -40) (f -40)) (λUo a=>?_);refine ag ?_;refine bq a 1 #[J aG v2,J aG v3,J R v4,J R v5,ad (fE z f 40 1) (d.length -40) (f -40)] ?_;refine a' a 4 (av #[J aG v2,J aG v3,J R v4,J R v5,ad (fE z f 40 1) (d.length -40) (f -40)]) (λUp a=>?_);refine bP ?_;go_wp2_with fail;refine dn (v:=bg #[av #[J aG v2,J aG v3,J R v4,J R v5,ad (fE z f 40 1) (d.length -40) (f -40)],J R 0]) (mP aa aa aa (a.aZ 4) aw aw) aa (bH ⟨⟨v2,v3,v4,v5,d.drop 40⟩,by rw[fM.out,E.out];rfl,fE z f 40 1,f -40,aT,(a.as 0 aa _ (λh=>e2.FI h) (λb hb=>S2 hb)).fresh 0⟩)
  .have aow:=hid hF;refine b4 ?_;refine bA (P.out o m c1 _ (a.has 2)) a (λUq a=>?_);refine ah ?_;refine aI (ak aB) (by(go_simp;exact λh1 D=>hF ⟨h1,D⟩)) ?_;refine ah ?_;iterate 2 refine ps ?_
   refine pk (ak aB) ?_;refine ah ?_;iterate 4 refine ps ?_
   refine cJ ?_;refine a' a 3 (av #[J aG 0,J aG 0,J R 0,J R 0,ad af 0 0]) (λafB a=>?_);refine bP ?_;go_wp2_with fail;refine dn (v:=_) (mP aa aa aa (a.aZ 3) aw aw) aa (b1 ⟨by rw[Q.out];rw[if_pos (bH aow.out)],aa,a.only⟩)
def Fq(a i cu of n:Nat):List Int:=sW++iS [(a,8),(i,8),(cu,8),(of,8),(n,4)]
def vw(a i cu of:Nat)(ds:List Int):List Int:=AJ (Fq a i cu of ds.length++ds)
def Uw{z}(h:0<=z/\z<18446744073709551616):aG.wrap z=z:=by grind[Dj,Di,JF]
def atH(a i cu of n):(Fq a i cu of n).length=40:=aS
def Row.Fz{w N n c A bs}(h:Row N w A n c 5 1 (bs.map a8)):bR w A bs:=by grind[bR.lW]
def Row.auX{w N n c A}{bs:List Int}(h:Row N w A n c 5 1 (bs.map a8)):bs.length=n:=by have a:=Row.len h;simpa using a
def atP(d i cu of:Nat)A c ds w(O:d<18446744073709551616/\i<18446744073709551616/\cu<=4611686018427387903/\of<=4611686018427387903/\ds.length<=1048576)(hb:bR w A ds):
 aD ax 290 #[av #[J aG (d:Int),J aG (i:Int),J R (cu:Int),J R (of:Int),ad A ds.length c]] w λe w'=>∃l n,e=aA (bg #[ad l (vw d i cu of ds).length n,J R 0])/\b3 w w' (cc l n (vw d i cu of ds)):=by
 have r:aE (∀a:Nat,(a:Int)<=4611686018427387903->∀W,aD ax 115 #[av #[J R (a:Int),J R 0]] W λe w'=>e=aA (ak aB)/\aq W w'):=hid (λa P W=>xB (a:Int) 0 W ⟨ae,ae,ae⟩);have t:aE (∀W,aq w W->bR W A ds):=hid (λW g=>hb.aH g)
 have u:aE (∀W,(∀B F,aW W F #[J aG (d:Int),J R 8,J aG (i:Int),J R 8,J aG (cu:Int),J R 8,J aG (of:Int),J R 8,J aG (ds.length:Int),J R 4] 227->bR W (ab ⟨B,0,af⟩) sW->aD ax 126 #[ad (ab ⟨B,0,af⟩) 4 4,ad (ab ⟨F,0,af⟩) 5 5] W λe w'=>∃l n,e=aA (bg #[ad l 40 n,ak aB])/\Row W.heap.size w' l 40 n 5 1 ((Fq d i cu of ds.length).map a8)/\aq W w')):=hid (λW B F j x=>by
  have q:=afD (ab ⟨B,0,af⟩) 4 sW F 0 5 [(d,8),(i,8),(cu,8),(of,8),(ds.length,4)] W ⟨bh,aT⟩ x (λf Q=>by grind[yt]) (λk f hk=>by
   obtain rfl|rfl|rfl|rfl|rfl|N:k=0\/k=1\/k=2\/k=3\/k=4\/5<=k:=ae;·cases hk;exact⟨j.cell _ aa,j.cell _ aa⟩
   .cases hk;exact⟨j.cell _ aa,j.cell _ aa⟩
   .cases hk;exact⟨j.cell _ aa,j.cell _ aa⟩
   .cases hk;exact⟨j.cell _ aa,j.cell _ aa⟩
   .cases hk;exact⟨j.cell _ aa,j.cell _ aa⟩
   grind);have v:(sW++iS [(d,8),(i,8),(cu,8),(of,8),(ds.length,4)]).length=40:=atH d i cu of ds.length;rw[v]at q;exact q);clear hb;go_enter func290,ntmps290;have b:=bf w;go_step;refine ag ?_;refine bM b (av #[J aG (d:Int),J aG (i:Int),J R (cu:Int),J R (of:Int),ad A ds.length c]) (λG w1 b=>?_);refine C4 ?_;refine pl b 0 2 ?_;refine ah ?_;refine bA (r cu ae _) b (λS b=>?_);refine pk (ak au) ?_;refine v2 ?_;refine pl b 0 3 ?_;refine ah ?_;refine bA (r of ae _) b (λT b=>?_);refine pk (ak au) ?_;refine pk (ak au) ?_;refine v2 ?_;refine pl b 0 4 ?_;refine ah ?_;refine cb (ak au) ?_;refine pk (ak au) ?_;refine ag ?_;refine f' b #[J d' 71,J d' 74,J d' 82,J d' 49] 5 (λH U b=>?_);refine CG b 0 (Fg sW aa aa (b.aZ 0) aa dI lj) (λV b=>?_);refine ah ?_;refine pl b 1 0 ?_;refine v2 ?_;refine pl b 1 1 ?_;refine v2 ?_;refine pl b 1 2 ?_;refine aI (J aG (cu:Int)) (by(have h:=Uw (z:=(cu:Int)) ae;go_simp;try rw[h])) ?_;refine v2 ?_;refine pl b 1 3 ?_;refine aI (J aG (of:Int)) (by(have h:=Uw (z:=(of:Int)) ae;go_simp;try rw[h])) ?_;refine v2 ?_;refine pl b 1 4 ?_;refine ah ?_;refine aI (J aG (ds.length:Int)) (by(have h:=Uw (z:=(ds.length:Int)) ae;go_simp;try rw[h])) ?_;refine ah ?_;refine f' b #[J aG (d:Int),J R 8,J aG (i:Int),J R 8,J aG (cu:Int),J R 8,J aG (of:Int),J R 8,J aG (ds.length:Int),J R 4] 227 (λI X b=>?_);refine a6 (u _ _ _ (b.aZ 0) (b.at 1)) ?_;rintro e Y ⟨C,K,rfl,hrow,g⟩;replace b:=b.k8 g hrow;refine ba ?_;refine v5 ?_;refine ja ?_;refine pl b 3 4 ?_;refine nt (m:=ds.length) b 0 1 ((t _ b.only).cells) (vT ds) (λD L Z b=>?_)
 have s:aE (∀W o p,Row 0 W o (40+ds.length) p 5 1 ((Fq d i cu of ds.length).map a8++ds.map a8)->aD ax 325 #[ad o (40+ds.length) p] W λe w'=>∃l n,e=aA (ad l (vw d i cu of ds).length n)/\e2 W.heap.size w' l n (vw d i cu of ds)/\aq W w'):=hid (λW o p hr=>by rw[<-List.map_append]at hr;have e:=hr.auX;have q:=auM o p (Fq d i cu of ds.length++ds) W ae (by rw[e];exact hr.cap) hr.Fz;rw[e]at q;exact q);refine a6 (s _ _ _ (b.at 0)) ?_;rintro e e8 ⟨E,M,rfl,y,g⟩;replace b:=b.js g y;refine ba ?_;refine dP ?_;go_wp2_with fail;go_ret2;exact⟨_,_,aa,b.fresh 0⟩
def Lj{a:Type}{L:List a}{p j x}(hx:L[j]?=ab x)(b:p x=aB)(hb:∀(i) y,i<j->L[i]?=ab y->p y=au):L.findIdx? p=ab j:=by grind[Qs]
theorem Li{a:Type}{L:List a}{p}(hb:∀(i:Nat) y,L[i]?=ab y->p y=au):L.findIdx? p=none:=by grind[oU]
abbrev RecM:=Rec×Option bU×Nat
def fV(l:List RecM):List Value:=l.flatMap (λx=>[J aG x.1.seq,J aG x.1.id,J R x.1.cur,J R x.1.off,ad x.2.1 x.1.data.length x.2.2])
theorem IN L:(fV L).length=L.length*5:=by
 induction L with
 |nil=>rfl
 |cons x L a=>grind[fV]
def Fs(L a):fV (L++a)=fV L++fV a:=List.flatMap_append
def T0 x:fV [x]=([J aG x.1.seq,J aG x.1.id,J R x.1.cur,J R x.1.off,ad x.2.1 x.1.data.length x.2.2]:List aO):=rfl
def atM L j x(hx:L[j]?=ab x):fV L=fV (L.take j)++(([J aG x.1.seq,J aG x.1.id,J R x.1.cur,J R x.1.off,ad x.2.1 x.1.data.length x.2.2]:List aO)++fV (L.drop (j+1))):=by obtain⟨a,hx⟩:=eQ.1 hx;rw[<-T0,<-Fs,<-Fs];congr 1;subst hx;simp
def TZ L j x(hx:L[j]?=ab x):∀(i) v,(([J aG x.1.seq,J aG x.1.id,J R x.1.cur,J R x.1.off,ad x.2.1 x.1.data.length x.2.2]:List aO):List aO)[i]?=ab v->(fV L)[j*5+i]?=ab v:=λi v hv=>by
 have b:=(eQ.1 hx).1;have hi:i<5:=(eQ.1 hv).1;have a:(fV (L.take j)).length=j*5:=by grind[IN]
 rw[atM L j x hx,oe ae,a,show j*5+i -j*5=i by omega,tD ae];exact hv
def y2(L:List RecM)(p:RecM->Bool):Int:=match L.findIdx? p with|some k=>(k:Int)|none=>-1
def atK A (c g:Nat) lb L p w (G:L.length<=1073741824) (hr:Row 0 w A L.length c 137 5 (fV L)) (q:∀args w,(kj g args).run ax w=a7 (.enter g args) w)
 (hp:∀x W,x∈L->aq w W->aD ax g (#[av #[J aG x.1.seq,J aG x.1.id,J R x.1.cur,J R x.1.off,ad x.2.1 x.1.data.length x.2.2]]++lb) W λe w'=>e=aA (ak (p x))/\aq W w'):
 aD ax 285 #[ad A L.length c,dJ (ej g) #[] lb] w λe w'=>e=aA (J R (y2 L p))/\aq w w':=by
 have E:=hr;obtain⟨hlen,_⟩:=E;have u:=hid q;have z:=hid hp;have o:aE (∀W,aq w W->Row 0 W A L.length c 137 5 (fV L)):=hid (λW g=>IF hr g);clear hr q hp hlen;go_enter func285,ntmps285;have a:=bf w;go_step;refine ag ?_;refine ah ?_;refine ag ?_;refine v3 ?_;refine an ?_;go_wp2_with fail;go_loopw [8] (λk wr=>∃j:Nat,j<=L.length/\k=J R (j:Int)/\(∀(i:Nat) (x:RecM),i<j->L[i]?=ab x->p x=au)/\aj w (λ_=>False) wr []) (λk wr=>L.length -(cw k).toNat);case atStart=>grind
 case round=>
  clear a;obtain⟨j,H,rfl,s,a⟩:=hrel;by_cases hlt:j<L.length
  .have D:(j:Int)<(L.length:Int):=ae;obtain⟨x,hx⟩:∃x,L[j]?=ab x:=⟨_,cj hlt⟩;obtain⟨d,cur,r,C,_,_,_,_⟩:=(o.out _ a.only).blk ae;obtain⟨iK,t⟩:=ex (p x);have F:=cL hx;have B:=hid (TZ L j x hx);have n:=hid hx;have b:=hid t;have m:=hid s;have l:=hid r;clear hx t s C r;go_step;refine ag ?_;refine ah ?_;refine ag ?_;refine v2 ?_;refine jt ?_;refine aI (ay (ab ⟨d,(j*5),af⟩)) (cH 235 137 5 (bb 12) (bb 13) aa xR aw d 0 (L.length) c j ((j*5)) (by show ad A _ _=_;rw[l]) aa hlt ae) ?_;refine aI _ (by(refine e6 _ _ aa d _ aa _ (Row.range (o _ a.only) l (λi v hi=>B i v hi)) O2 aa aw)) ?_;refine bA ((by have h:=z.out x _ F a.only;rw[b.out]at h;exact h)) a (λw1 a=>?_) (hr:=by(go_simp;exact u _ _));refine an ?_;cases iK with
   |true=>
    refine ag ?_;refine dP ?_;go_wp2_with fail;go_ret;exact⟨by rw[show y2 L p=(j:Int)from by unfold y2;rw[show L.findIdx? p=ab j from Lj n b m]];rfl,a.only⟩
   |false=>
    refine ag ?_;refine pad (j:Int) 1 ((j+1:Nat):Int) ?_;refine bP ?_;go_wp2_with fail;go_roundw;case rel=>exact⟨j+1,ae,rfl,λi y hi f=>by rcases Nat.lt_succ_iff_lt_or_eq.1 hi with h|rfl;exact m i y h f;rw[n]at f;cases f;exact b,a⟩
    case measure=>simp[cw]<;>omega
  .have D:¬(j:Int)<(L.length:Int):=ae;obtain rfl:j=L.length:=ae;go_step;refine ag ?_;refine ah ?_;refine ag ?_;refine ah ?_;refine an ?_;go_wp2_with fail;go_ret;exact⟨by rw[show y2 L p=-1 from by grind[y2,Li]];rfl,a.only⟩
def atJ A (c g:Nat) lb L (p:RecM->Bool) w (cf:L.length<=1073741824) (hr:Row 0 w A L.length c 137 5 (fV L)) (B:∀args w,(kj g args).run ax w=a7 (.enter g args) w)
 (hp:∀x W,x∈L->ar (dU A) w W->aD ax g (#[av #[J aG x.1.seq,J aG x.1.id,J R x.1.cur,J R x.1.off,ad x.2.1 x.1.data.length x.2.2]]++lb) W λe w'=>e=aA (ak (p x))/\aq W w'):
 aD ax 215 #[ad A L.length c,dJ (ej g) #[] lb] w λe w'=>∃P,e=aA (ad P (L.filter (λx=>!p x)).length c)/\Turned w w' (bn A L.length c 137 5 (fV L)) (bn P (L.filter (λx=>!p x)).length c 137 5 (fV (L.filter (λx=>!p x)))):=by
 have U:=hid B;have D:0<L.length->_:=λh=>hr.blk h;obtain⟨N,K⟩:=ex (y2 L p);have X:aE (∀W,ar (dU A) w W->Row 0 W A L.length c 137 5 (fV L)->aD ax 285 #[ad A L.length c,dJ (ej g) #[] lb] W λe w'=>e=aA (J R N)/\aq W w'):=hid (λW o h=>by have q:=atK A c g lb L p W cf h B (λx fv hx g2=>hp x fv hx (o.trans g2.to (λ_ _ h=>h)));rw[K]at q;exact q);have Y:=hid hp;have hr1:=hid hr;have Ib:=hid (λb (hb:dU A b)=>(Row.lt hr hb).2);by_cases Ci:N=-1;clear B hp
 .subst Ci;have hno:L.filter (λx=>!p x)=L:=by grind[zE,y2]
  rw[hno];clear hno K D hr;go_enter Tryz.func215,Tryz.ntmps215;have a:=aj.start (t:=bn A L.length c 137 5 (fV L)) ⟨hr1,Ib⟩;go_step;refine ag ?_;refine ku ?_;refine bA (X.out _ a.only (a.at 0)) a (λw1 a=>?_);refine cJ ?_;refine pk (ak aB) ?_;refine ag ?_;refine dP ?_;go_wp2_with fail;go_ret;exact⟨A,aa,a.gi 0⟩
 .obtain⟨d,pU⟩:∃d,L.findIdx? p=ab d:=by grind[y2]
  have Sc:N=(d:Int):=by grind[y2]
  subst Sc;obtain⟨jm,ug,hb1⟩:=Qs.1 pU;obtain⟨G,cur,rfl,kI,iH,hcm,hcs,E⟩:=D ae;have apC:¬(d:Int)=-1:=ae;have R':(L.take d).filter (λx=>!p x)=L.take d:=by grind[zE,oU]
  have hx1:L[d]?=ab L[d]:=cj jm
  have hst:∃f fb,cur=(fV ((L.take (d+1)).filter (λx=>!p x))++(f++(fV (L.drop (d+1))++fb))).toArray/\f.length=5/\((L.take (d+1)).filter (λx=>!p x)).length=d:=by
   have bB:(L.take (d+1)).filter (λx=>!p x)=L.take d:=by grind[fu]
   refine⟨fV [L[d]],cur.toList.drop (L.length*5),?_,aS,aF⟩;rw[bB,<-j5,<-j5,<-Fs,<-Fs,show L.take d++[L[d]]++L.drop _=L by simp,<-E,List.take_append_drop]
  obtain⟨f,fb,HD,fl,l⟩:=hst;have aoz:∀b,dU (ab (⟨G,0,af⟩:bU)) b->b=G:=λb ⟨off,sp,e⟩=>by grind
  have hsz:cur.size=c*5:=hcs;have jK:fb.length+L.length*5=c*5:=by grind[IN]
  have P':=hid jK;have r:=hid iH;have Q:=hid hcm;have qs:=hid hsz;have mv:=hid HD;have PC:=hid E;have ln:=hid kI;clear jK K pU hb1 R' ug hx1 iH hcm hcs E D hr kI hsz HD;go_enter Tryz.func215,Tryz.ntmps215;have a:aj w (dU (ab (⟨G,0,af⟩:bU))) w [ai G cur 137]:=(aj.start (t:=bn (ab (⟨G,0,af⟩:bU)) L.length c 137 5 (fV L)) ⟨hr1,Ib⟩).as 0 aa _ (λ_=>ln) (λb hb=>⟨0,af,by rw[show b=G from hb]⟩);go_step;refine ag ?_;refine ku ?_;refine bA (X.out _ a.only (by have h:=IS (n:=L.length) (a.aZ 0) r Q qs;rw[show cur.toList.take (L.length*5)=fV L from PC]at h;exact h)) a (λaR a=>?_);refine cJ ?_;refine cb (ak au) ?_;refine b4 ?_;refine pad (d:Int) 1 ((d+1:Nat):Int) ?_;refine bP ?_;have b9:=a;rw[mv]at a;go_wp2_with fail;go_loopw [5,6] (λaV O wr=>∃(i j:Nat) (f:List aO),i<j/\j<=L.length/\aV=J R (i:Int)/\O=J R (j:Int)/\((L.take j).filter (λx=>!p x)).length=i/\f.length+i*5=j*5/\aj w (dU (ab (⟨G,0,af⟩:bU))) wr [ai G (fV ((L.take j).filter (λx=>!p x))++(f++(fV (L.drop j)++fb))).toArray 137]) (λaV O wr=>L.length -(cw O).toNat);case atStart=>exact⟨d,d+1,_,ae,ae,aa,aa,l,ae,a⟩
  case round=>
   clear a b9 l fl;obtain⟨i,j,f,hJ,hj,rfl,rfl,l,fl,a⟩:=hrel;by_cases hlt:j<L.length
   .have cI:(j:Int)<(L.length:Int):=ae;obtain⟨x,hx⟩:∃x,L[j]?=ab x:=⟨_,cj hlt⟩;have kK:=cL hx;obtain⟨iK,oD⟩:=ex (p x);have hdr:fV (L.drop j)=([J aG x.1.seq,J aG x.1.id,J R x.1.cur,J R x.1.off,ad x.2.1 x.1.data.length x.2.2]:List aO)++fV (L.drop (j+1)):=by rw[<-T0,<-Fs];congr 1;obtain⟨h1,rfl⟩:=eQ.1 hx;simp
    obtain⟨pre,M⟩:=ex (fV ((L.take j).filter (λx=>!p x)));have SF:pre.length=i*5:=by grind[IN]
    obtain⟨ea,I⟩:=ex (fV (L.drop (j+1)));rw[hdr,M,I]at a
    have xf:∀(k:Nat) (v:aO),(([J aG x.1.seq,J aG x.1.id,J R x.1.cur,J R x.1.off,ad x.2.1 x.1.data.length x.2.2]:List aO):List aO)[k]?=ab v->(pre++(f++(([J aG x.1.seq,J aG x.1.id,J R x.1.cur,J R x.1.off,ad x.2.1 x.1.data.length x.2.2]:List aO)++ea++fb)))[j*5+k]?=ab v:=λk v hk=>by have apd:k<5:=(eQ.1 hk).1;rw[oe ae,oe ae,j5,tD (by show _<5;omega),show j*5+k -pre.length -f.length=k by omega];exact hk
    have Z:=hid SF;have tA:=hid xf;have u:=hid hx;have s:=hid oD;have wJ:=hid M;have T:=hid I;have m:=hid l;have aiH:=hid hdr;clear hx oD M I hdr xf l;go_step;refine ag ?_;refine v4 ?_;refine ja ?_;refine aI (ay (ab ⟨G,(j*5),af⟩)) (cH 235 137 5 (bb 22) (bb 23) aa xR aw G 0 (L.length) c j ((j*5)) aa aa hlt ae) ?_;refine aI _ (by(refine e6 _ _ aa G _ aa _ ((a.aZ 0).rangeAt _ _ (λk v hk=>by rw[zG];exact tA k v hk)) O2 aa aw)) ?_;refine bx a #[J aG 0,J aG 0,J R 0,J R 0,ad af 0 0] (λfL bL a=>?_);refine a' a 0 (av #[J aG x.1.seq,J aG x.1.id,J R x.1.cur,J R x.1.off,ad x.2.1 x.1.data.length x.2.2]) (λca a=>?_);refine an ?_;cases iK with
    |true=>
     refine b4 ?_;refine bq a 0 #[J aG x.1.seq,J aG x.1.id,J R x.1.cur,J R x.1.off,ad x.2.1 x.1.data.length x.2.2] ?_;refine bA ((by have h:=Y.out x _ kK a.only;rw[s.out]at h;exact h)) a (λcF a=>?_) (hr:=by(first|(go_simp;done)|(go_simp;exact U.out _ _)));refine cJ ?_;refine pad (j:Int) 1 ((j+1:Nat):Int) ?_;refine bP ?_;go_wp2_with fail;go_roundw;case rel=>exact⟨i,j+1,f++([J aG _,J aG _,J R _,J R _,ad x.2.1 _ x.2.2]:List _),ae,ae,aa,aa,by rw[show(L.take _).filter (λx=>!p x)=(L.take j).filter (λx=>!p x)from by rw[fu,u,pC];simp[s.out]];exact m,by rw[dv];show f.length+5+_=_;omega,by rw[show(L.take _).filter (λx=>!p x)=(L.take j).filter (λx=>!p x)from by rw[fu,u,pC];simp[s.out],wJ.out,T.out];have h:aj _ _ _ [ai G (pre++(f++(([J aG x.1.seq,J aG x.1.id,J R x.1.cur,J R x.1.off,ad x.2.1 x.1.data.length x.2.2]:List aO)++ea++fb))).toArray 137]:=a.pick [1];simpa using h⟩
     case measure=>simp[cw]<;>omega
    |false=>
     refine b4 ?_;refine bq a 0 #[J aG x.1.seq,J aG x.1.id,J R x.1.cur,J R x.1.off,ad x.2.1 x.1.data.length x.2.2] ?_;refine bA ((by have h:=Y.out x _ kK a.only;rw[s.out]at h;exact h)) a (λc6 a=>?_) (hr:=by(first|(go_simp;done)|(go_simp;exact U.out _ _)));refine ku ?_;refine bq a 0 #[J aG x.1.seq,J aG x.1.id,J R x.1.cur,J R x.1.off,ad x.2.1 x.1.data.length x.2.2] ?_;refine aI _ (cH 235 137 5 _ _ aa xR aw G 0 _ c i ((i*5)) aa aa ae ae) ?_;refine MV a 1 (FC (cs':=(pre++(([J aG x.1.seq,J aG x.1.id,J R x.1.cur,J R x.1.off,ad x.2.1 x.1.data.length x.2.2]:List aO)++(f++(([J aG x.1.seq,J aG x.1.id,J R x.1.cur,J R x.1.off,ad x.2.1 x.1.data.length x.2.2]:List aO)++ea++fb)).drop 5)).toArray) (av #[J aG x.1.seq,J aG x.1.id,J R x.1.cur,J R x.1.off,ad x.2.1 x.1.data.length x.2.2]) aa aa aa (a.aZ 1) (by show i*5+5<=_;rw[iQ,dv,dv,dv,dv,Z];show _<=_+(_+(5+_+_));omega) aw aw (by have e:=Ct ([J aG x.1.seq,J aG x.1.id,J R x.1.cur,J R x.1.off,ad x.2.1 x.1.data.length x.2.2]:List aO) pre (f++(([J aG x.1.seq,J aG x.1.id,J R x.1.cur,J R x.1.off,ad x.2.1 x.1.data.length x.2.2]:List aO)++ea++fb)) (by rw[dv,dv,dv];show 5<=_+(5+_+_);omega);rw[Z]at e;exact e)) (λdW a=>?_);refine b4 ?_;refine pad (i:Int) 1 ((i+1:Nat):Int) ?_;refine cJ ?_;refine pad (j:Int) 1 ((j+1:Nat):Int) ?_;refine bP ?_;go_wp2_with fail;go_roundw;case rel=>exact⟨i+1,j+1,(f++([J aG x.1.seq,J aG x.1.id,J R x.1.cur,J R x.1.off,ad x.2.1 x.1.data.length x.2.2]:List aO)).drop 5,ae,ae,aa,aa,by rw[(show(L.take _).filter (λx=>!p x)=(L.take j).filter (λx=>!p x)++[x]from by rw[fu,u,pC];simp[s.out]),dv,m];rfl,by rw[vh,dv];show f.length+5 -5+_=_;omega,by rw[(show(L.take _).filter (λx=>!p x)=(L.take j).filter (λx=>!p x)++[x]from by rw[fu,u,pC];simp[s.out]),Fs,wJ,T0,T];have h:aj _ _ _ [ai G (pre++(([J aG x.1.seq,J aG x.1.id,J R x.1.cur,J R x.1.off,ad x.2.1 x.1.data.length x.2.2]:List aO)++(f++(([J aG x.1.seq,J aG x.1.id,J R x.1.cur,J R x.1.off,ad x.2.1 x.1.data.length x.2.2]:List aO)++ea++fb)).drop 5)).toArray 137]:=a.pick [1];rw[show pre++(([J aG x.1.seq,J aG x.1.id,J R x.1.cur,J R x.1.off,ad x.2.1 x.1.data.length x.2.2]:List aO)++(f++(([J aG x.1.seq,J aG x.1.id,J R x.1.cur,J R x.1.off,ad x.2.1 x.1.data.length x.2.2]:List aO)++ea++fb)).drop 5)=pre++([J aG x.1.seq,J aG x.1.id,J R x.1.cur,J R x.1.off,ad x.2.1 x.1.data.length x.2.2]:List aO)++((f++([J aG x.1.seq,J aG x.1.id,J R x.1.cur,J R x.1.off,ad x.2.1 x.1.data.length x.2.2]:List aO)).drop 5++(ea++fb))from by rw[j5,j5,<-j5 f,List.drop_append_of_le_length (by rw[dv];show 5<=_+5;omega)]]at h;exact h⟩
     case measure=>simp[cw]<;>omega
   .have cI:¬(j:Int)<(L.length:Int):=ae;obtain rfl:j=L.length:=ae;rw[ik]at a l;rw[List.drop_length]at a;have m:=hid l;clear l;go_step;refine ag ?_;refine v4 ?_;refine an ?_;obtain⟨cu,z⟩:=ex ((fV (L.filter (λx=>!p x))++(f++(fV []++fb))).toArray);have HE:cu.size=c*5:=by rw[<-z,iQ,dv,dv,dv,IN,m];have:=P'.out;show _+(_+(0+_))=_;omega
    have hcut:cu.toList.take (i*5)=fV (L.filter (λx=>!p x)):=by rw[<-z,<-m,<-IN];simp
    rw[z]at a;have S:=hid HE;have Dt:=hid hcut;clear z HE hcut;refine ja ?_;refine aI (ad (ab ⟨G,i*5,af⟩) (L.length -i) (c -i)) (aeT 235 137 5 (bb 36) (bb 37) aa xR aw G L.length c i (L.length -i) aa aa ae r.out (by have:=r.out;omega)) ?_;refine adx (C:=λy=>y.size=cu.size/\y.toList.take (i*5)=cu.toList.take (i*5)) a 0 (aer (sz:=5) aa aS xR aS aS aw ae (a.aZ 0) (by rw[S];have:=r.out;omega)) (λiZ y R0 a=>?_);refine an ?_;obtain⟨F,H⟩:=R0;rw[Dt]at H;rw[S]at F;replace a:aj _ _ _ [ai G y 137]:=a;have Qi:=hid F;have vc:=hid H;clear F H;refine ja ?_;refine aI (ad (ab (⟨G,0,af⟩:bU)) i c) (qY 235 137 5 (bb 39) (bb 40) aa xR aw (ab (⟨G,0,af⟩:bU)) L.length c i aa aa (by have:=r.out;omega)) ?_;refine bP ?_;have V:=a.AQ 0 i c 5 (fV (L.filter (λx=>!p x))) vc (by have:=r.out;omega) Q Qi;rw[<-m]at V;go_wp2_with fail;go_ret;exact⟨_,by rw[m.out];rfl,V.gi 0⟩
def aet{o}{a:Act}{w x v n}(c:o.op=.call {callee:=.invoke x n,args:=#[],argTypes:=#[]})(hx:a.eval x=.iface 137 v)(b:(callMethod (.iface 137 v) n #[]).run ax w=a7 (.enter 408 #[v]) w:=by rfl):(bt a.eval o).run ax w=a7 (.enter 408 #[v]) w:=by have h1:(kj 408 #[v]).run _ w=a7 (.enter 408 _) w:=ll Tryz.func408 aw aa _ _;unfold bt;simp only[c,mX,hx,invoke,gj,jR,ji];simpa using b
def qd:RecM:=(⟨0,0,0,0,[]⟩,af,0)
def jg:List RecM->RecM
 |[]=>qd
 |x::l=>l.foldl (λb y=>if y.1.seq>b.1.seq then y else b) x
def akY l x:jg (l++[x])=if l=[]\/x.1.seq>(jg l).1.seq then x else jg l:=by
 cases l with
 |nil=>rfl
 |cons y l=>grind[jg]
def Yk:∀(l),jg l=qd\/jg l∈l:=by
 intro l;cases l with
 |nil=>exact bH aa
 |cons x l=>
  right;show l.foldl _ x∈_
  have key:∀(l:List RecM) x,l.foldl (λb y=>if y.1.seq>b.1.seq then y else b) x=x\/l.foldl (λb y=>if y.1.seq>b.1.seq then y else b) x∈l:=by
   intro l;induction l with
   |nil=>simp
   |cons y l a=>
    intro x;rw[zF];rcases a (if y.1.seq>x.1.seq then y else x)with h|h
    .rw[h];split;·simp
     .simp
    .grind
  grind
def ac5(x:RecM)w:
 aD ax 408 #[av #[J aG x.1.seq,J aG x.1.id,J R x.1.cur,J R x.1.off,ad x.2.1 x.1.data.length x.2.2]] w λe w'=>e=aA (J aG x.1.seq)/\aq w w':=by
 go_enter Tryz.func408,ntmps408;have a:=bf w;go_step;refine ag ?_;refine bM a (av _) (λb w1 a=>?_);refine cJ ?_;refine pl a 0 0 ?_;refine bP ?_;go_wp2_with fail;go_ret;exact⟨aa,a.only⟩
def aod A c L w(H:L.length<=1073741824)(hr:Row 0 w A L.length c 137 5 (fV L)):
 aD ax 214 #[ad A L.length c] w λe w'=>e=aA (bg #[av #[J aG (jg L).1.seq,J aG (jg L).1.id,J R (jg L).1.cur,J R (jg L).1.off,ad (jg L).2.1 (jg L).1.data.length (jg L).2.2],ak (decide (0<L.length))])/\aq w w':=by
 have s:aE (∀W,aq w W->Row 0 W A _ c _ 5 _):=hid (λW g=>IF hr g);clear hr;obtain⟨fT,hbl⟩:=ex (jg L);obtain⟨lb,n⟩:=ex (decide (0<L.length));rw[hbl,n];have B:=hid n;have z:=hid hbl;clear n hbl;go_enter func214,ntmps214;have a:=bf w;go_step;refine ag ?_;refine bx a #[J _ 0,J _ 0,J _ 0,J _ 0,ad _ 0 0] (λp w1 a=>?_);refine dQ ?_;refine bx a #[J aG 0,J aG 0,J R 0,J R 0,ad af 0 0] (λq K a=>?_);refine ag ?_;refine v3 ?_;refine an ?_;replace a:aj _ _ _ [ai q #[J _ (jg []).1.seq,J _ (jg []).1.id,J R (jg []).1.cur,J _ (jg []).1.off,ad (jg []).2.1 (jg []).1.data.length (jg []).2.2] 137,ai p #[J aG qd.1.seq,J _ qd.1.id,J _ qd.1.cur,J _ qd.1.off,ad qd.2.1 qd.1.data.length qd.2.2] 137]:=a;go_wp2_with fail;go_loopw [9] (λo wr=>∃j:Nat,j<=L.length/\o=J R (j:Int)/\aj w (λ_=>False) wr [ai q #[J aG (jg (L.take j)).1.seq,J aG (jg (L.take j)).1.id,J R (jg (L.take j)).1.cur,J R (jg (L.take j)).1.off,ad (jg (L.take j)).2.1 (jg (L.take j)).1.data.length (jg (L.take j)).2.2] 137,ai p #[J aG qd.1.seq,J aG qd.1.id,J R qd.1.cur,J R qd.1.off,ad qd.2.1 qd.1.data.length qd.2.2] 137]) (λo wr=>L.length -(cw o).toNat);case atStart=>exact⟨0,cQ _,aa,a⟩
 case round=>
  clear a;obtain⟨j,I,rfl,a⟩:=hrel;by_cases hlt:j<L.length
  .have E:(j:Int)<(L.length:Int):=ae;obtain⟨x,hx⟩:∃x,L[j]?=ab x:=⟨_,cj hlt⟩;obtain⟨l,cur,t,D,_,_,_,_⟩:=(s.out _ a.only).blk ae;have C:=hid (TZ L j x hx);have u:L.take (j+1)=L.take j++[x]:=by rw[fu,hx];rfl
   obtain⟨b,hb⟩:=ex (jg (L.take j));rw[hb]at a;have f:aE (jg (L.take _)=if j=0\/x.1.seq>b.1.seq then x else b):=hid (by rw[u,akY,hb];congr 1;rw[eq_iff_iff];refine or_congr_left ⟨λh=>?_,λh=>by rw[h];rfl⟩;have:=congrArg vg h;rw[oT,l2]at this;omega);have r:=hid t;clear hx D t u hb;go_step;refine ag ?_;refine cJ ?_;refine aI (ay (ab ⟨l,(j*5),af⟩)) (cH 235 137 5 (bb 7) (bb 9) aa xR aw l 0 (L.length) c j ((j*5)) (by show ad A _ _=_;rw[r]) aa hlt ae) ?_;refine aI _ (by(refine e6 137 _ aa l _ aa _ (Row.range (s _ a.only) r (λi v hi=>C i v hi)) O2 aa aw)) ?_;refine bx a #[J _ 0,J _ 0,J _ 0,J _ 0,ad _ 0 0] (λG M a=>?_);refine ah ?_;refine a' a 0 (av _) (λN a=>?_);refine an ?_;by_cases m:j=0
   .have d:(j:Int)=0:=ae;refine ct ?_;refine bN a [] (λ_ _=>aY) (λ_ _=>emp) (λ_=>[]) (λ_=>[]) (λ_=>[]) [0,1,2] (λF=>?_);refine aK ?_;refine aL (ak aB) (λ_ _ _=>by(go_simp;try simp[d])) ?_;refine aK ?_;iterate 7 refine ds ?_
    refine gB (ak aB) ?_;refine bQ λO a=>?_;refine ag ?_;refine bq a 0 #[J aG x.1.seq,J aG x.1.id,J R x.1.cur,J R x.1.off,ad x.2.1 x.1.data.length x.2.2] ?_;refine a' a 1 (av _) (λP a=>?_);refine an ?_;have y:=hid m;clear m d;refine ag ?_;refine pad (j:Int) 1 ((j+1:Nat):Int) ?_;refine bP ?_;go_wp2_with fail;go_roundw;case rel=>exact⟨j+1,ae,aa,by rw[f,if_pos (bH y.out)];exact a.pick [1,2]⟩
    case measure=>simp[cw]<;>omega
   .have d:¬(j:Int)=0:=ae;obtain⟨dB,hcb⟩:=ex (decide (x.1.seq>b.1.seq));have k:=hid hcb;clear hcb;refine ct ?_;refine bN a [5,8] (λi _=>match i with|5=>J aG x.1.seq|8=>J aG b.1.seq|_=>aY) (λ_ _=>emp) (λ_=>[]) (λ|3=>[0]|6=>[1]|_=>[]) (λ_=>[]) [0,1,2,8,11] (λF=>?_);refine aK ?_;refine aL (ak au) (λ_ _ _=>by(go_simp;try simp[d])) ?_;refine aK ?_;refine ea 0 #[J aG x.1.seq,J aG x.1.id,J R x.1.cur,J R x.1.off,ad x.2.1 x.1.data.length x.2.2] ?_;refine aK ?_;refine dD (λ_ _ _=>ac5 x _) ?_ (hr:=by(intro _;exact aet aa aa));refine ea 0 #[J aG b.1.seq,J aG b.1.id,J R b.1.cur,J R b.1.off,ad b.2.1 b.1.data.length b.2.2] ?_;refine aK ?_;refine dD (λ_ _ _=>ac5 b _) ?_ (hr:=by(intro _;exact aet aa aa));refine aL (ak dB) (λ_ _ _=>by(have h:=k.out;go_simp;try simp[h])) ?_;refine gB (ak dB) ?_;refine bQ λQ a=>?_;replace a:=a.drop 3;replace a:=a.drop 3;cases dB with
    |true=>
     refine ag ?_;refine bq a 0 #[J aG x.1.seq,J aG x.1.id,J R x.1.cur,J R x.1.off,ad x.2.1 x.1.data.length x.2.2] ?_;refine a' a 1 (av _) (λS a=>?_);refine ag ?_;refine pad (j:Int) 1 ((j+1:Nat):Int) ?_;refine bP ?_;go_wp2_with fail;go_roundw;case rel=>exact⟨j+1,ae,aa,by rw[f,if_pos (b1 (of_decide_eq_true k))];exact a.pick [1,2]⟩
     case measure=>simp[cw]<;>omega
    |false=>
     refine ag ?_;refine pad (j:Int) 1 ((j+1:Nat):Int) ?_;refine bP ?_;go_wp2_with fail;go_roundw;case rel=>exact⟨j+1,ae,aa,by rw[f,if_neg (λh=>h.elim m (of_decide_eq_false k))];exact a.pick [1,2]⟩
     case measure=>simp[cw]<;>omega
  .have E:¬(j:Int)<(L.length:Int):=ae;obtain rfl:j=L.length:=ae;rw[ik,z]at a;go_step;refine ag ?_;refine dQ ?_;refine bq a 0 #[J aG fT.1.seq,J aG fT.1.id,J R fT.1.cur,J R fT.1.off,ad fT.2.1 fT.1.data.length fT.2.2] ?_;refine v2 ?_;refine aI (ak lb) (by(have h:=B.out;first|(go_simp;done)|(go_simp;rw[<-h];done)|(go_simp;rw[<-h];simp))) ?_;refine a' a 1 (av _) (λT a=>?_);refine bP ?_;go_wp2_with fail;refine dn (v:=_) (mP aa aa aa (a.aZ 1) aw aw) aa (⟨aa,a.only⟩)
def arR(x:RecM)id B w(hb:aW w B #[J aG id] 42):
 aD ax 217 #[av #[J aG x.1.seq,J aG x.1.id,J R x.1.cur,J R x.1.off,ad x.2.1 x.1.data.length x.2.2],ay (ab ⟨B,0,af⟩)] w λe w'=>e=aA (ak (decide (x.1.id≠id)))/\aq w w':=by
 obtain⟨d,b⟩:=ex (decide (x.1.id≠id));have c:=hid b;rw[b];clear b;go_enter Tryz.func217,ntmps217;have a:=bf w;go_step;refine ag ?_;refine bM a (av _) (λf w1 a=>?_);refine cJ ?_;refine pl a 0 1 ?_;refine iK hb a.only ?_;refine aI (ak d) (by(have h:=c.out;go_simp;rw[<-h];simp[bne,BEq.beq])) ?_;refine bP ?_;go_wp2_with fail;go_ret;exact⟨aa,a.only⟩
def atL{L u}(h:u∈fV L):u.oneCell'=true:=by obtain⟨x,_,hx⟩:=List.mem_flatMap.1 h;simp only[gy,ga,or_false]at hx;rcases hx with rfl|rfl|rfl|rfl|rfl<;>rfl
def Row.cells{w A}{n c e sz:Nat}{xs}(h:Row 0 w A n c e sz xs):Cells w sz A n xs:=by
 refine⟨h.1,λd=>?_⟩;obtain⟨g,cur,rfl,hb,h1,f,i,b⟩:=h.blk d;refine⟨_,rfl,λj u a=>?_⟩;rw[nG,kV];refine hb.cell j ?_;rw[<-b,List.getElem?_take]at a;split at a;·grind
 .grind
def alF A c L w(t:L.length<=1073741824)(hr:Row 0 w A L.length c 137 5 (fV L))(f:L.length=0->A=af)(hc0:L.length=0->c=0):
 aD ax 216 #[ad A L.length c] w λe w'=>∃b d,e=aA (ad b L.length d)/\Row w.heap.size w' b L.length d 137 5 (fV L)/\aq w w':=by
 by_cases n:L.length=0;·have hnil:=jH n;subst hnil;have o:=f aa;subst o;obtain rfl:=hc0 aa;go_enter Tryz.func216,Tryz.ntmps216;have a:=bf w;go_step;refine ag ?_;refine cJ ?_;refine pk (ak aB) ?_;refine ag ?_;refine ah ?_;refine an ?_;go_wp2_with fail;go_ret;exact⟨_,0,aa,Row.nil _ _ _ _,a.only⟩
 .obtain⟨s,cur,rfl,p,_,_,_,_⟩:=hr.blk ae;have j:aE (∀W,aq w W->Row 0 W _ _ c _ 5 _):=hid (λW g=>IF hr g);clear hr p f hc0;go_enter Tryz.func216,Tryz.ntmps216;have a:=bf w;go_step;refine ag ?_;refine cJ ?_;refine pk (ak au) ?_;refine ag ?_;refine f' a #[] 137 (λr w1 a=>?_);refine ah ?_;have k:aj _ _ _ [bn _ 0 0 _ 5 []]:=a.AQ 0 0 0 5 [] aa (cm _) (cQ _) aa;refine nt (m:=_) k 0 56 (by have h:=j.out _ a.only;exact Row.cells h) (λu q=>atL q) (λi l v a=>?_) (hby:=by omega);refine bP ?_;rw[kV,nd]at a;go_wp2_with fail;go_ret;exact⟨i,l,aa,(a.fresh 0).row,a.only⟩
def xp(id:Int)(L:List RecM):RecM×Bool:=(jg (L.filter (λx=>!decide (x.1.id≠id))),decide (0<(L.filter (λx=>!decide (x.1.id≠id))).length))
def acZ id A c L w(n:L.length<=1073741824)(hr:Row 0 w A L.length c 137 5 (fV L))(m:L.length=0->A=af)(hc0:L.length=0->c=0)(s:∀x∈L,bR w x.2.1 x.1.data/\x.1.data.length<=140737488355328):
 aD ax 133 #[J aG id,ad A L.length c] w λe w'=>∃d k,e=aA (bg #[av (recC (xp id L).1.1 d k),ak (xp id L).2])/\b3 w w' (cc d k (xp id L).1.1.data):=by
 obtain⟨f,l⟩:=ex (L.filter (λx=>!decide (x.1.id≠id)));have V:f.length<=L.length:=aF;obtain⟨b,hb⟩:=ex (jg f);obtain⟨lb,t⟩:=ex (decide (0<f.length))
 have r:∀W,aq w W->bR W _ b.1.data:=λW g=>by
  rcases Yk f with h|h;·rw[hb]at h;rw[h];exact bR.nil
  .rw[hb,<-l]at h;exact(s b ((List.mem_filter.1 h).1)).1.aH g
 have hbl:b.1.data.length<=140737488355328:=by
  rcases Yk f with h|h;·rw[hb]at h;rw[h];exact cQ _
  .grind
 have p:xp id L=(b,lb):=by grind[xp]
 rw[p];have y:=hid (λW g=>alF A c L W n (IF hr g) m hc0)
 have C:aE (∀W aJ c2 B,Row 0 W aJ _ c2 _ 5 _->aW W B _ 42->¬dU aJ B->aD _ _ #[ad aJ _ c2,dJ (ej 217) #[] _] W λe w'=>∃d,e=aA _/\Turned W w' _ _):=hid (λW aJ c2 B h hb2 M=>by have q:=atJ aJ c2 _ #[ay _] L (λx=>decide _) W n h (ll Tryz.func217 aw aa) (λx E _ o=>arR x id B E (o.heap hb2 M));rw[l]at q;exact q);have z:aE (∀W,aq w W->aD _ 65 _ W λe w'=>∃d k,e=aA _/\e2 _ w' d k _/\aq W w'):=hid (λW g=>(wW _ b.2.2 _ W (r W g) hbl).mono (λe w' ⟨d,k,h1,G,H⟩=>⟨d,k,h1,Row.nV G,H⟩));have D:=hid (λW aJ c2 h=>by have q:=aod aJ c2 f W ae h;rw[hb,t]at q;exact q);clear hr s m hc0 l hb t r p;go_enter func133,ntmps133;have a:=bf w;go_step;refine ag ?_;refine bM a (J _ id) (λQ w1 a=>?_);refine bx a #[J _ 0,J _ 0,J _ 0,J _ 0,ad _ 0 0] (λS Y a=>?_);refine cJ ?_;refine a6 (y.out _ a.only) ?_;rintro e Z ⟨O,U,rfl,I,g⟩;replace a:=a.k8 g I;refine ba ?_;refine ah ?_;refine a6 (C _ _ _ _ (a.atR 0) (a.aZ 2) (λh=>a.ne (i:=0) (j:=2) aa aa bh _ h aa)) ?_;rintro e ca ⟨P,rfl,K⟩;replace a:=a.eF 0 K;refine ba ?_;refine bA (D _ _ _ (a.atR 0)) a (λcF a=>?_);refine v3 ?_;refine bx a #[J _ 0,J _ 0,J _ 0,J _ 0,ad _ 0 0] (λT c6 a=>?_);refine a' a 0 (av _) (λdW a=>?_);refine cJ ?_;refine pl a 0 4 ?_;refine a6 (z _ a.only) ?_;rintro e dG ⟨u,F,rfl,N,g⟩;replace a:=a.js g N;refine ba ?_;refine ah ?_;refine a' a 1 (ad _ _ _) (λe8 a=>?_);refine ag ?_;refine bq a 1 #[J aG b.1.seq,J aG b.1.id,J R b.1.cur,J R b.1.off,ad u b.1.data.length F] ?_;refine ah ?_;refine a' a 3 (av _) (λX a=>?_);refine bP ?_;go_wp2_with fail;refine dn (v:=_) (mP aa aa aa (a.aZ 3) aw aw) aa (⟨_,_,aa,a.fresh 0⟩)
def jZ(size bound:Nat):Nat:=(bound+43)/size+1
def auY{size bound}(h:1<=size):bound+44<=jZ size bound*size:=by unfold jZ;have h1:=aj5 (bound+43) size;have a:=XO (bound+43) h;rw[Nat.succ_mul,Nat.mul_comm _ _];omega
def vO(d:dL)(bound:Nat):Nat:=jZ d.size bound*d.size
def uq(d:dL)(first bound i:Nat):Nat:=(first+i*jZ d.size bound)*d.size
structure kk (d:dL) (first bound:Nat):Prop where
 dev:dR d
 eR:1<=bound
 eY:bound<=65536
 fits:first+2*jZ d.size bound<=d.cnt
def kk.room{d first bound}(h:kk d first bound){i}(hi:i<=1):uq d first bound i+vO d bound<=d.bytes.length:=by unfold uq vO;rw[<-Nat.add_mul,h.dev.len];refine tH _ ?_;have:=h.fits;grind[Nat.le_one_iff_eq_zero_or_eq_one]
def kk.small{d first bound}(h:kk d first bound):d.bytes.length<=1048576/\d.cnt<=1048576/\d.size<=1048576:=by have h1:=h.dev.small;have a:=h.dev.mj;have b:=h.dev.vr;have c:d.cnt<=d.cnt*d.size:=Nat.le_mul_of_pos_right _ a;have e:d.size<=d.cnt*d.size:=GO _ b;rw[h.dev.len];omega
def acg(size bound:Nat)(h1:1<=size)(f:1<=bound)(g:bound<=65536)w:
 aD ax 114 #[J R (size:Int),J R (bound:Int)] w λe w'=>e=aA (J R (jZ size bound:Int))/\aq w w':=by
 obtain⟨q,a⟩:=ex ((bound+43)/size);have i:q<=bound+43:=by rw[<-a];exact zH _ _
 have c:=hid a;have e:jZ size bound=q+1:=by rw[jZ,a]
 rw[e];clear a e;have d:aE (∀W,aD ax 199 #[J R (bound:Int)] W λe w'=>e=aA (J R ((bound+44:Nat):Int))/\aq W w'):=hid (λW=>by have h:=ael (bound:Int) W ae;grind[kc]);go_enter func114,ntmps114;have b:=bf w;go_step;refine ag ?_;refine cJ ?_;refine cb (ak au) ?_;refine v2 ?_;refine cb (ak au) ?_;refine v3 ?_;refine cb (ak au) ?_;refine cJ ?_;refine bA (d.out _) b (λw1 b=>?_);refine mN _ 1 ((bound+43:Nat):Int) ?_;refine ah ?_;refine aI _ (BC _ _ _ _ aa _ _ q aa aa h1 c ae) ?_;refine pad _ 1 ((q+1:Nat):Int) ?_;refine bP ?_;go_wp2_with fail;go_ret;exact⟨aa,b.only⟩
def ace B m d(first bound)w(c:Has w (aN B m d))(b:kk d first bound):
 aD ax 206 #[av #[ay (ab ⟨B,0,af⟩),J R (first:Int),J R (bound:Int)]] w λe w'=>e=aA (J R (jZ d.size bound:Int))/\aq w w':=by
 have f:=hid c;clear c;go_enter func206,ntmps206;have a:=bf w;go_step;refine ag ?_;refine bM a (av #[ay (ab ⟨B,0,af⟩),J R (first:Int),J R (bound:Int)]) (λg w1 a=>?_);refine ig ?_;refine bN a [2,5] (λi _=>match i with|2=>J R (d.size:Int)|5=>J R (jZ d.size bound:Int)|_=>aY) (λ_ _=>emp) (λ_=>[]) (λ|1=>[0]|4=>[0]|_=>[]) (λ_=>[]) [0,3,6] (λh=>?_);refine aK ?_;refine dl 0 0 ?_;refine dD (λ_ _ a=>wY B m d _ (f.out.aH a.only).dev b.dev) ?_;refine aK ?_;refine dl 0 2 ?_;refine dD (λ_ _ _=>acg _ _ b.dev.mj b.eR b.eY _) ?_;refine aK ?_;refine bQ λj a=>?_;replace a:=a.drop 1;replace a:=a.drop 1;go_wp2_with fail;go_ret;exact⟨aa,a.only⟩
def aqE B m d(first bound)w(f:Has w (aN B m d))(b:kk d first bound):
 aD ax 128 #[av #[ay (ab ⟨B,0,af⟩),J R (first:Int),J R (bound:Int)]] w λe w'=>e=aA (J R 0)/\aq w w':=by
 obtain⟨hb1,hb2,hb3⟩:=b.small;have l:=b.fits;obtain⟨n,c⟩:=ex (jZ d.size bound);have p:1<=n:=by rw[<-c];exact zK (cQ _)
 rw[c]at l;have k:aE (∀W,aq w W->aD ax 206 #[av #[ay (ab ⟨B,0,af⟩),J R (first:Int),J R (bound:Int)]] W λe w'=>e=aA (J R (n:Int))/\aq W w'):=hid (λW g=>by have h:=ace B m d first bound W (f.aH g) b;rw[c]at h;exact h);have j:=hid f;clear f c;go_enter func128,ntmps128;have a:=bf w;go_step;refine ag ?_;refine bM a (av #[ay (ab ⟨B,0,af⟩),J R (first:Int),J R (bound:Int)]) (λo w1 a=>?_);refine dQ ?_;refine bq a 0 #[ay (ab ⟨B,0,af⟩),J R (first:Int),J R (bound:Int)] ?_;refine bA (k _ a.only) a (λr a=>?_);refine cJ ?_;refine pl a 0 0 ?_;refine pk (ak au) ?_;refine cJ ?_;refine cb (ak au) ?_;refine ig ?_;refine bN a [8,14] (λi _=>match i with|8=>J R (d.cnt:Int)|14=>J R (d.cnt:Int)|_=>aY) (λ_ _=>emp) (λ_=>[]) (λ|1=>[0]|5=>[0]|7=>[0]|13=>[0]|16=>[0]|_=>[]) (λ_=>[]) [0,9,15] (λq=>?_);refine aK ?_;refine dl 0 1 ?_;refine aL (ak au) (λ_ _ _=>by(go_simp;try omega)) ?_;refine bp ?_;refine dl 0 1 ?_;refine aK ?_;refine dl 0 0 ?_;refine dD (λ_ _ a=>Lc B m d _ (j.out.aH a.only).dev b.dev) ?_;refine aL (ak au) (λ_ _ _=>by(go_simp;try omega)) ?_;refine c7 ?_;refine dl 0 0 ?_;refine dD (λ_ _ a=>Lc B m d _ (j.out.aH a.only).dev b.dev) ?_;refine aK ?_;refine dl 0 1 ?_;refine aL (J R ((d.cnt -first:Nat):Int)) (λ_ _ _=>pK 3 (bb 28) (bb 30) 3 aa ((d.cnt:Int)) ((first:Int)) ((d.cnt -first:Nat):Int) aa aa ae ae ae) ?_;refine aK ?_;refine aL (J R ((2*n:Nat):Int)) (λ_ _ _=>nH 3 (.const (J R 2)) (bb 32) 3 aa 2 ((n:Int)) ((2*n:Nat):Int) aa aa ae ae ae) ?_;refine aL (ak au) (λ_ _ _=>by(go_simp;try omega)) ?_;refine bp ?_;refine bQ λs a=>?_;replace a:=a.drop 1;replace a:=a.drop 1;refine ag ?_;refine ah ?_;refine an ?_;go_wp2_with fail;go_ret;exact⟨aa,a.only⟩
def acd B m d(first bound)w(f:Has w (aN B m d))(b:kk d first bound)(i:Nat)(hi:i<=1):
 aD ax 131 #[av #[ay (ab ⟨B,0,af⟩),J R (first:Int),J R (bound:Int)],J R (i:Int)] w λe w'=>e=aA (gI ((uq d first bound i:Int),(vO d bound:Int)))/\aq w w':=by
 obtain⟨hb1,hb2,hb3⟩:=b.small;have x:=b.fits;obtain⟨n,c⟩:=ex (jZ d.size bound);have E:1<=n:=by rw[<-c];exact zK (cQ _)
 rw[c]at x;have r:aE (∀W,aq w W->aD ax 206 #[av #[ay (ab ⟨B,0,af⟩),J R (first:Int),J R (bound:Int)]] W λe w'=>e=aA (J R (n:Int))/\aq W w'):=hid (λW g=>by have h:=ace B m d first bound W (f.aH g) b;rw[c]at h;exact h);have k:=hid f;obtain⟨z,hz⟩:=ex (i*n);have F:z<=n:=by rw[<-hz];exact eC (tH _ hi) (Nat.le_of_eq (Nat.one_mul _))
 have p:(i:Int)*(n:Int)=(z:Int):=ae;obtain⟨o,A⟩:=ex ((first+z)*d.size);have hoi:((first+z:Nat):Int)*(d.size:Int)=(o:Int):=ae;obtain⟨j,y⟩:=ex (n*d.size);have l:(n:Int)*(d.size:Int)=(j:Int):=ae;have C:=b.room hi;have bB:uq d first bound i=o:=by grind[uq]
 have b7:vO d bound=j:=by grind[vO]
 rw[bB,b7]at C⊢;have u:=hid p;have t:=hid hoi;have s:=hid l;clear f c bB b7 hz p A hoi y l;go_enter func131,ntmps131;have a:=bf w;go_step;refine ag ?_;refine bM a (av #[ay (ab ⟨B,0,af⟩),J R (first:Int),J R (bound:Int)]) (λD w1 a=>?_);refine bx a #[J R 0,J R 0] (λq H a=>?_);refine ag ?_;refine bq a 1 #[ay (ab ⟨B,0,af⟩),J R (first:Int),J R (bound:Int)] ?_;refine bA (r _ a.only) a (λI a=>?_);refine ig ?_;refine bN a [8,13,16] (λi _=>match i with|8=>J R (d.size:Int)|13=>J R (d.size:Int)|_=>aY) (λ_=>λ|16=>ai q #[J R (o:Int),J R (j:Int)] 35|_=>emp) (λ|16=>[0]|_=>[]) (λ|1=>[1]|7=>[1]|12=>[1]|_=>[]) (λ_=>[]) [1,10,15,18] (λG=>?_);refine aK ?_;refine dl 0 1 ?_;refine bp ?_;refine aL _ (λ_ _ _=>nH 3 _ _ 3 aa _ _ _ aa aa u ae ae) ?_;refine aL _ (λ_ _ _=>lK 3 _ _ 3 aa _ _ ((first+z:Nat):Int) aa aa ae ae ae) ?_;refine aK ?_;refine dl 0 0 ?_;refine dD (λ_ _ a=>wY B m d _ (k.out.aH a.only).dev b.dev) ?_;refine aL _ (λ_ _ _=>nH 3 _ _ 3 aa _ _ _ aa aa t ae ae) ?_;refine bp ?_;refine dl 0 0 ?_;refine dD (λ_ _ a=>wY B m d _ (k.out.aH a.only).dev b.dev) ?_;refine aL _ (λ_ _ _=>nH 3 _ _ 3 aa _ _ _ aa aa s ae ae) ?_;refine aK ?_;refine fY _ ?_;refine bQ λK a=>?_;replace a:=a.drop 1;replace a:=a.drop 1;go_wp2_with fail;refine dn (v:=_) (jd aa _ _ _ _ _ _ _ aa (a.aZ 1) Tryz.underlying35 aa aw) aa (⟨aa,a.only⟩)
def xx(L:List RecM):br:=⟨λb=>∃x∈L,dU x.2.1 b,λw=>∀x∈L,e2 0 w x.2.1 x.2.2 x.1.data,λw w' h a c x hx=>(cc x.2.1 x.2.2 x.1.data).oA w w' (λb hb=>h b ⟨x,hx,hb⟩) (λb hb=>a b ⟨x,hx,hb⟩) (c x hx)⟩
def aj.atG{ao w FX l L r A c}(h:aj ao FX w (xx L::cc A c r.data::l)):aj ao FX w (xx (L++[(r,A,c)])::l):=
 h.star.as 0 aa (xx (L++[(r,A,c)])) (λh x hx=>by
  rcases jf.1 hx with hx|hx;·exact h.1 x hx
  .obtain rfl:x=(r,A,c):=aF;exact h.2.1) (λb ⟨x,hx,hb⟩=>by
  rcases jf.1 hx with hx|hx;·exact bH ⟨x,hx,hb⟩
  .obtain rfl:x=(r,A,c):=aF;exact b1 hb)
def atI L x:fV (L++[x])=fV L++[J aG x.1.seq,J aG x.1.id,J R x.1.cur,J R x.1.off,ad x.2.1 x.1.data.length x.2.2]:=by grind[fV]
def AM(d:dL)(first bound i:Nat):Option Rec:=tS (pb d (uq d first bound i) (vO d bound))
def Has.only{w w' t F}(h:Has w t)(g:ar F w w')(a:∀b,t.c5 b->¬F b):Has w' t:=⟨t.only h.1 h.2 g a,λb hb=>vl (h.2 b hb) g.size⟩
def wT(l:List Rec)(o:Option Rec):List Rec:=l++o.toList
def uy(B:Nat)(first bound:Nat)(id:Int)(a d dw b:Nat)(L:List RecM)(A:Option bU)(c:Nat):br:=
 bO [ai a #[ay (ab ⟨B,0,af⟩)] 32,ai d #[ay (ab ⟨dw,0,af⟩)] 125,ai dw #[ay (ab ⟨B,0,af⟩),J R (first:Int),J R (bound:Int),J aG id,J aG 1,J aG 0,J aG 0,J R 0,J R 0,ad af 0 0,ak au] 233,ai b #[ad A L.length c] 235,bn A L.length c 137 5 (fV L),xx L]
def asj B m d(first bound)id(j l dw k i:Nat)L A c w(hs:Has w (uy B first bound id j l dw k L A c))(hv:Has w (aN B m d))(U:∀b,(aN B m d).c5 b->¬(uy B first bound id j l dw k L A c).c5 b)(p:kk d first bound)(P:d.down=au)(hi:i<=1)(cf:L.length<=2):
 aD ax 129 #[J R (i:Int),ay (ab ⟨j,0,af⟩),ay (ab ⟨l,0,af⟩),ay (ab ⟨k,0,af⟩)] w λe w'=>e=aA (J R 0)/\∃C,C.map (·.1)=wT (L.map (·.1)) (AM d first bound i)/\∃aJ c2,aE (C.length=0->aJ=A/\c2=c)/\Turned w w' (uy B first bound id j l dw k L A c) (uy B first bound id j l dw k C aJ c2):=by
 obtain⟨hb1,hb2,hb3⟩:=p.small;have Q:=p.room hi;obtain⟨of,G⟩:=ex (uq d first bound i);obtain⟨f,F⟩:=ex (vO d bound);obtain⟨bs,E⟩:=ex (pb d of f);have hbl:bs.length=f:=by rw[<-E];exact AF p.dev ae
 rw[G,F]at Q;obtain⟨y,V⟩:=ex (tS bs);have S:AM d first bound i=y:=by grind[AM]
 rw[S];have je:aE (∀W,Has W (aN B m d)->aD ax 131 #[av #[ay (ab ⟨B,0,af⟩),J R (first:Int),J R (bound:Int)],J R (i:Int)] W λe w'=>e=aA (av #[J R (of:Int),J R (f:Int)])/\aq W w'):=hid (λW h=>by have q:=acd B m d first bound W h p i hi;rw[G,F]at q;exact q);have Z:aE (∀W,Has W (aN B m d)->aD ax 130 #[dh B,av #[J R (of:Int),J R (f:Int)]] W λe w'=>∃A c,e=aA (bg #[ad A f c,J R 0])/\b3 W w' (cc A c bs)):=hid (λW h=>by have q:=Zy B m d of f W h p.dev P Q;rw[E]at q;exact q);have K:aE (∀W aJ c2,e2 0 W aJ c2 bs->aD ax 132 #[ad aJ f c2] W λe w'=>(∃r,y=ab r/\∃s v,e=aA (bg #[av (recC r s v),J R 0])/\b3 W w' (cc s v r.data))\/(y=af/\e=aA (bg #[av M7,J R 19])/\aq W w')):=hid (λW aJ c2 h=>by have q:=atB aJ c2 bs W ae h.2.2 h.1;rw[hbl,V]at q;exact q);have M:aE (∀W,ar (uy B first bound id j l dw k L A c).c5 w W->Has W (aN B m d)):=hid (λW g=>Has.only hv g U);clear hv U p P G F E V S hi;go_enter func129,ntmps129;have a:aj w (uy B first bound id j l dw k L A c).c5 w [ai j #[ay (ab ⟨B,0,af⟩)] 32,ai l #[ay (ab ⟨dw,0,af⟩)] 125,ai dw #[ay (ab ⟨B,0,af⟩),J R (first:Int),J R (bound:Int),J aG id,J aG 1,J aG 0,J aG 0,J R 0,J R 0,ad af 0 0,ak au] 233,ai k #[ad A L.length c] 235,bn A L.length c 137 5 (fV L),xx L]:=(aj.start (t:=bO _) hs).kq;go_step;refine ag ?_;refine ig ?_;refine bN a [6,7] (λi u=>match i with|6=>av #[J R (of:Int),J R (f:Int)]|7=>bg #[ad u.A f u.c,J R 0]|_=>aY) (λx=>λ|7=>cc ((x 7).A) ((x 7).c) bs|_=>emp) (λ_=>[]) (λ|0=>[0]|1=>[1]|4=>[2]|_=>[]) (λ|7=>[7]|_=>[]) [0,1,2,3,4,5,12,13] (λx=>?_);refine dl 0 0 ?_;refine dl 0 0 ?_;refine bp ?_;refine ea 0 #[ay (ab ⟨B,0,af⟩),J R (first:Int),J R (bound:Int)] ?_;refine aK ?_;refine dD (λ_ _ a=>je _ (M _ a.only)) ?_;refine df (λwl Fr a=>(Z _ (M _ a.only)).mono ?_) ?_;·rintro e dm ⟨X,kE,rfl,D⟩;exact⟨{A:=X,c:=kE},aa,a.new _ D⟩
 refine oL ?_;refine bQ λw1 a=>?_;generalize (x 7).A=H at a⊢;generalize (x 7).c=N at a⊢;replace a:=a.drop 6;refine b4 ?_;refine pk (ak au) ?_;refine an ?_;cases y with
 |none=>
  have z:aE (∀W aJ c2,e2 0 W aJ c2 bs->aD ax 132 #[ad aJ f c2] W λe w'=>e=aA (bg #[av M7,J R 19])/\aq W w'):=hid (λW aJ c2 h=>(K W aJ c2 h).mono (λe w' hh=>aF));refine b4 ?_;refine bA (z.out _ H N (a.lr 6)) a (λaR a=>?_);refine v3 ?_;refine bx a #[J aG 0,J aG 0,J R 0,J R 0,ad af 0 0] (λY bL a=>?_);refine a' a 0 (av #[J aG 0,J aG 0,J R 0,J R 0,ad af 0 0]) (λca a=>?_);refine cJ ?_;refine pk (ak au) ?_;refine ag ?_;refine ah ?_;refine an ?_;have o:=a.pk [1,2,3,4,5,6];replace o:aj _ _ _ [uy B first bound id j l dw k L A c]:=o.fB 6;go_wp2_with fail;go_ret;exact⟨aa,L,by simp[wT],A,c,(by first|exact hid (λ_=>⟨aa,aa⟩)|exact hid trivial),o.gi 0⟩
 |some r=>
  have z:aE (∀W aJ c2,e2 0 W aJ c2 bs->aD ax 132 #[ad aJ f c2] W λe w'=>∃s v,e=aA (bg #[av #[J aG r.seq,J aG r.id,J R r.cur,J R r.off,ad s r.data.length v],J R 0])/\b3 W w' (cc s v r.data)):=hid (λW aJ c2 h=>(K W aJ c2 h).mono (λe w' hh=>aF));refine b4 ?_;refine a6 (z.out _ H N (a.lr 6)) ?_;rintro e cF ⟨n,bo,rfl,D⟩;replace a:=a.new _ D;refine ba ?_;refine v3 ?_;refine bx a #[J aG 0,J aG 0,J R 0,J R 0,ad af 0 0] (λY c6 a=>?_);refine a' a 0 (av #[J aG r.seq,J aG r.id,J R r.cur,J R r.off,ad n r.data.length bo]) (λdW a=>?_);refine cJ ?_;refine pk (ak aB) ?_;refine ag ?_;refine pl a 5 0 ?_;refine bq a 0 #[J aG r.seq,J aG r.id,J R r.cur,J R r.off,ad n r.data.length bo] ?_;refine f' a #[J aG r.seq,J aG r.id,J R r.cur,J R r.off,ad n r.data.length bo] 137 (λOu dG a=>?_);refine nt (m:=1) a 7 56 (aW.cellsOf (m:=1) (a.aZ 0) aa) (by intro u T;simp only[gy,ga,or_false]at T;rcases T with rfl|rfl|rfl|rfl|rfl<;>rfl) (λI O e8 a=>?_) (hby:=by omega);refine a' a 6 (ad I (L.length+1) O) (λhR a=>?_);refine ag ?_;refine ah ?_;refine an ?_;replace a:=a.pk [8,2,3,4,5,6,7];replace a:=a.atG;have bB:fV L++[J aG r.seq,J aG r.id,J R r.cur,J R r.off,ad n r.data.length bo]=fV (L++[(r,n,bo)]):=(atI L (r,n,bo)).symm;have b7:L.length+1=(L++[(r,n,bo)]).length:=aT;rw[bB,b7]at a;have o:=a.pk [1,2,3,4,5,0];replace o:aj _ _ _ [uy B first bound id j l dw k (L++[(r,n,bo)]) I O]:=o.fB 6;go_wp2_with fail;go_ret;exact⟨aa,L++[(r,n,bo)],by simp[wT],_,_,(by first|exact hid (λh=>absurd h aT)|exact hid trivial|simp[ax5]),o.gi 0⟩
structure oQ where
 next:Int
 last:Rec
 has:Bool
def awS:Rec:=⟨0,0,0,0,[]⟩
def QN:List Rec->Rec
 |[]=>awS
 |x::l=>l.foldl (λb y=>if y.seq>b.seq then y else b) x
def yW(id:Int)(l:List Rec):Rec×Bool:=(QN (l.filter (λx=>!decide (x.id≠id))),decide (0<(l.filter (λx=>!decide (x.id≠id))).length))
theorem akX L:(jg L).1=QN (L.map (·.1)):=by
 cases L with
 |nil=>rfl
 |cons x L=>
  show(L.foldl _ x).1=(L.map _).foldl _ x.1;induction L generalizing x with
  |nil=>rfl
  |cons y L a=>
   rw[zF,jx,zF,a];congr 1;split<;>rfl
def acY id L:(xp id L).1.1=(yW id (L.map (·.1))).1/\(xp id L).2=(yW id (L.map (·.1))).2:=by
 have e:(L.map (·.1)).filter (λx=>!decide (x.id≠id))=(L.filter (λx=>!decide (x.1.id≠id))).map (·.1):=by rw[List.filter_map];rfl
 grind[xp,yW,akX]
def Cy:List Rec->Int
 |[]=>1
 |[a]=>aG.wrap (a.seq+1)
 |a::b::_=>aG.wrap (max a.seq b.seq+1)
def uB(d:dL)(first bound:Nat):List Rec:=wT (wT [] (AM d first bound 0)) (AM d first bound 1)
def r3(d:dL)(first bound:Nat)(id:Int):oQ:=⟨Cy (uB d first bound),(yW id (uB d first bound)).1,(yW id (uB d first bound)).2⟩
def adj d(first bound)id:(r3 d first bound id).next =Cy (uB d first bound):=by rw[r3]
theorem TB d(first bound)id:(r3 d first bound id).last=(yW id (uB d first bound)).1:=by rw[r3]
theorem TA d(first bound)id:(r3 d first bound id).has=(yW id (uB d first bound)).2:=by rw[r3]
abbrev Ml(B first bound:Nat)(id:Int)(j:oQ)(A:Option bU)(c:Nat):Array Value:=#[ay (ab ⟨B,0,af⟩),J R (first:Int),J R (bound:Int),J aG id,J aG j.next,J aG j.last.seq,J aG j.last.id,J R j.last.cur,J R j.last.off,ad A j.last.data.length c,ak j.has]
def p3(dw B first bound:Nat)(id:Int)(j:oQ)(A:Option bU)(c:Nat):br:=both (ai dw (Ml B first bound id j A c) 233) (cc A c j.last.data)
def T5{P o}{a:Act}{w}{g n c e sz i:Nat}{xs v ty x}(h:Row 0 w (ab ⟨g,0,af⟩) n c e sz xs)(hv:xs[i]?=ab v)(k:o.op=.load ty x)(hx:a.eval x=ay (ab ⟨g,i,af⟩))(l:(P.underlying ty).map (λd=>d.isRow)=ab au):(bt a.eval o).run P w=a7 (c8 v) w:=by
 have f:0<n:=by
  rcases lJ n with b|b;·have h1:=h.1;grind
  .omega
 obtain⟨g2,cur,b7,hb,_,_,_,j⟩:=h.blk f;grind[fy]
def amC{bs r}(h:tS bs=ab r):r.data.length<=bs.length:=by grind[tS,sZ]
theorem ad4{d first bound}(a:kk d first bound)r(h:r∈uB d first bound):r.data.length<=140737488355328:=by
 have key:∀i,i<=1->∀r,AM d _ _ i=ab r->r.data.length<=140737488355328:=λi hi r hr=>by have h1:=amC hr;have b:=a.room hi;have c:=a.small;rw[AF a.dev b]at h1;omega
 grind[uB,wT]
def IX(d:dL)(first bound:Nat):Nat->List Rec
 |0=>[]
 |j+1=>wT (IX d first bound j) (AM d first bound j)
def aeU d(first bound):∀j,(IX d first bound j).length<=j
 |0=>cm _
 |j+1=>by have:=aeU d first bound j;rw[IX,wT,dv];cases AM d first bound j<;>simp<;>omega
def aqN B m d(first bound)id w(hs:Has w (aN B m d))(hj:kk d first bound)(cZ:d.down=au):
 aD ax 54 #[dh B,J R (first:Int),J R (bound:Int),J aG id] w λe w'=>∃dw,e=aA (bg #[ay (ab ⟨dw,0,af⟩),J R 0])/\∃A c,b3 w w' (p3 dw B first bound id (r3 d first bound id) A c):=by
 have lq:=hid (λW g=>aqE B m d _ _ W (hs.aH g) hj);have k0:=hs.2;obtain⟨k,sN⟩:=ex (r3 d first bound id);have T:=hid sN;rw[sN];clear sN;go_enter func54,ntmps54;have a:=bf w;go_step;refine ag ?_;refine bM a (ay _) (λC w1 a=>?_);refine v2 ?_;refine ag ?_;refine pl a 0 0 ?_;refine v5 ?_;refine bM a (av _) (λo aR a=>?_);refine bx a #[ay _] (λF bL a=>?_);refine a' a 0 (ay _) (λca a=>?_);refine ag ?_;refine pl a 0 0 ?_;refine v2 ?_;refine bq a 1 #[ay (ab ⟨B,0,af⟩),J R (first:Int),J R (bound:Int)] ?_;refine bA (lq _ a.only) a (λcF a=>?_);refine cJ ?_;refine pk (ak au) ?_;refine ag ?_;refine bx a #[ad af 0 0] (λz c6 a=>?_);refine ag ?_;refine v2 ?_;refine ag ?_;refine ah ?_;refine an ?_;replace a:=(a.new (xx []) ⟨ar.refl _ _,λx hx=>absurd hx ga,λb ⟨x,hx,_⟩=>absurd hx ga⟩).new (bn _ 0 0 137 5 []) ⟨ar.refl _ _,Row.nil _ _ _ _,λb ⟨_,_,e⟩=>by cases e⟩;replace a:aj w (λ_=>False) c6 [uy B _ _ id C F o z [] af 0]:=(a.pick (l':=[ai C _ 32,ai _ _ 125,ai o _ 233,ai z _ 235,bn af 0 0 137 5 [],xx []]) [5,3,4,2,0,1]).fB 6;go_wp2_with fail;go_loopw [34] (λt wr=>∃(j:Nat) (L:List RecM) (A:Option bU) (c:Nat),j<=2/\t=J R (j:Int)/\L.map (·.1)=(IX d first bound j)/\(L.length=0->A=af/\c=0)/\aj w (λ_=>False) wr [uy B first bound id C F o z L A c]) (λt wr=>2 -(cw t).toNat);case atStart=>exact⟨0,[],_,0,ae,rfl,rfl,λ_=>⟨aa,aa⟩,a⟩
 case round=>
  clear a;obtain⟨j,L,A,c,LO,rfl,E,H,a⟩:=hrel;have BV:L.length<=j:=by have h:=congrArg vg E;rw[gU]at h;rw[h];exact aeU _ _ _ _
  by_cases hlt:j<2
  .have cI:(j:Int)<2:=ae
   have bJ:aE (∀W,aq w W->Has W _->(∀b,(uy B first bound id C F o z L A c).c5 b->w.heap.size<=b)->aD ax 129 _ W λe w'=>e=aA (J R 0)/\∃s,s.map (·.1)=(IX d first bound (j+1))/\∃aJ c2,(s.length=0->aJ=af/\c2=0)/\Turned W w' _ (uy B first bound id C F o z s aJ c2)):=hid (λW g h hf=>by have q:=asj B m d _ _ id _ _ _ _ j L A c W h (hs.aH g) (λb hb hb2=>by have h1:=hf b hb2;have G:=k0 b hb;omega) hj cZ ae ae;rw[E]at q;exact q.mono (λe aR ⟨h1,s,G,aJ,c2,h3,h4⟩=>⟨h1,s,G,aJ,c2,λn=>by have Z:=congrArg vg G;rw[gU,n]at Z;have h6:L.length=0:=(by rw[<-gU (f:=(·.1)),E];unfold wT at Z;rw[dv]at Z;omega);exact⟨(h3 n).1.trans (H h6).1,(h3 n).2.trans (H h6).2⟩,h4⟩));clear E BV H;go_step;refine ag ?_;refine ah ?_;refine ag ?_;refine v2 ?_;refine ja ?_;refine a6 (bJ.out _ a.only (a.has 0) (λb hb=>((a.low _ (vi.2 aa) b hb).2).resolve_right (λh=>h))) ?_;rintro e dW ⟨rfl,s,El,aJ,c2,sM,bF⟩;replace a:=a.eF 0 bF;refine ba ?_;refine cJ ?_;refine pk (ak au) ?_;refine ag ?_;refine pad (j:Int) 1 ((j+1:Nat):Int) ?_;refine bP ?_;go_wp2_with fail;go_roundw;case rel=>exact⟨j+1,s,aJ,c2,ae,aa,El,sM,a⟩
   case measure=>simp[cw]<;>omega
  .have cI:¬(j:Int)<2:=ae;obtain rfl:j=2:=ae;have I:L.map _=uB d _ _:=E;have iG:∀x∈L,x.1.data.length<=140737488355328:=λx hx=>ad4 hj _ (by rw[<-I];exact List.mem_map_of_mem hx);have Du:=hid iG;have K:=hid H;have vB:k.next=Cy (L.map (·.1)):=by rw[<-T,adj,I]
   have kJ:k.last=(xp id L).1.1/\k.has=(xp id L).2:=⟨by rw[<-T,(acY id L).1,I,TB],by rw[<-T,(acY id L).2,I,TA]⟩;have W5:=hid vB;have M:=hid kJ;clear E I iG H vB kJ;go_step;refine ag ?_;refine bP ?_;replace a:=a.lE;refine ag ?_;refine pl a 3 0 ?_;refine dP ?_;go_wp2_with fail;go_loopw [46] (λt wr=>∃(q:Nat) (nx:Int),q<=L.length/\t=J R (q:Int)/\(L.length=0->nx=1)/\(q=1->L.length=1->nx=Cy (L.map (·.1)))/\aj w (λ_=>False) wr [ai C #[ay (ab ⟨B,0,af⟩)] 32,ai F #[ay (ab ⟨o,0,af⟩)] 125,ai o #[ay (ab ⟨B,0,af⟩),J R (first:Int),J R (bound:Int),J aG id,J aG nx,J aG 0,J aG 0,J R 0,J R 0,ad af 0 0,ak au] 233,ai z #[ad A L.length c] 235,bn A L.length c 137 5 (fV L),xx L]) (λt wr=>L.length -(cw t).toNat);case atStart=>exact⟨0,1,ae,rfl,λ_=>rfl,λh=>absurd h ae,a⟩
   case round=>
    clear a;obtain⟨q,nx,hq,rfl,lR,nM,a⟩:=hrel;by_cases HT:q<L.length
    .have apt:(q:Int)<(L.length:Int):=ae;obtain⟨x,hx⟩:∃x,L[q]?=ab x:=⟨_,cj HT⟩;obtain⟨D,cur,N,kI,_,_,_,_⟩:=(a.atR 4).blk ae;have dO:=hid (TZ L q x hx);have hx0:q=0->L.length=1->Cy (L.map (·.1))=aG.wrap (x.1.seq+1):=λh h1=>by subst h;obtain⟨y,hy⟩:=List.length_eq_one_iff.1 h1;subst hy;injection hx with hx;subst hx;rfl
     have ajC:=hid hx0;have ax3:=hid lR;have ax4:=hid nM;have b5:=hid N;clear hx kI N lR nM hx0;go_step;refine ag ?_;refine cJ ?_;refine aI (ay (ab ⟨D,(q*5),af⟩)) (cH 235 137 5 (bb 44) (bb 46) aa xR aw D 0 (L.length) c q ((q*5)) (by show ad A _ _=_;rw[b5]) aa HT ae) ?_;refine aI _ (by(refine e6 137 _ aa D _ aa _ (Row.range (a.atR 4) b5 (λi v hi=>dO i v hi)) O2 aa aw)) ?_;refine bx a #[J _ 0,J _ 0,J _ 0,J _ 0,ad _ 0 0] (λUZ dG a=>?_);refine ah ?_;refine a' a 0 (av _) (λe8 a=>?_);refine an ?_;by_cases uh:q=0
     .have O:(q:Int)=0:=ae;refine ct ?_;refine bN a [] (λ_ _=>aY) (λ_ _=>emp) (λ_=>[]) (λ_=>[]) (λ_=>[]) [0,1,2,3,4,5,6] (λl=>?_);refine aK ?_;refine aL (ak aB) (λ_ _ _=>by(go_simp;try simp[O])) ?_;refine aK ?_;iterate 7 refine ds ?_
      refine gB (ak aB) ?_;refine bQ λhR a=>?_;refine ag ?_;refine pl a 2 0 ?_;refine ah ?_;refine pl a 0 0 ?_;refine pk (J aG (aG.wrap (x.1.seq+1))) ?_;refine v2 ?_;refine a' a 3 (J _ _) (λiZ a=>?_);refine an ?_;have aji:=hid uh;clear O uh;refine ag ?_;refine pad (q:Int) 1 ((q+1:Nat):Int) ?_;refine bP ?_;go_wp2_with fail;go_roundw;case rel=>exact⟨q+1,_,ae,rfl,λh=>absurd h ae,λ_ h=>(ajC aji h).symm,a.pick [1,2,3,4,5,6]⟩
      case measure=>simp[cw]<;>omega
     .have O:¬(q:Int)=0:=ae;obtain⟨dB,hcb⟩:=ex (decide (nx<=x.1.seq));have wF:=hid hcb;clear hcb;refine ct ?_;refine bN a [] (λ_ _=>aY) (λ_ _=>emp) (λ_=>[]) (λ|4=>[0]|5=>[2]|8=>[3]|_=>[]) (λ_=>[]) [0,1,2,3,4,5,6] (λl=>?_);refine aK ?_;refine aL (ak au) (λ_ _ _=>by(go_simp;try simp[O])) ?_;refine bp ?_;refine dl 0 0 ?_;refine dl 0 0 ?_;refine bp ?_;refine dl 0 4 ?_;refine aL (ak dB) (λ_ _ _=>by(have h:=wF.out;first|(go_simp;done)|(go_simp;rw[<-h];done)|(go_simp;simp[<-h]))) ?_;refine gB (ak dB) ?_;refine bQ λks a=>?_;cases dB with
      |true=>
       refine ag ?_;refine pl a 2 0 ?_;refine ah ?_;refine pl a 0 0 ?_;refine pk (J aG (aG.wrap (x.1.seq+1))) ?_;refine v2 ?_;refine a' a 3 (J _ _) (λlf a=>?_);refine ag ?_;refine pad (q:Int) 1 ((q+1:Nat):Int) ?_;refine bP ?_;go_wp2_with fail;go_roundw;case rel=>exact⟨q+1,_,ae,rfl,λh=>absurd h ae,λh=>absurd h ae,a.pick [1,2,3,4,5,6]⟩
       case measure=>simp[cw]<;>omega
      |false=>
       refine ag ?_;refine pad (q:Int) 1 ((q+1:Nat):Int) ?_;refine bP ?_;go_wp2_with fail;go_roundw;case rel=>exact⟨q+1,nx,ae,rfl,λh=>absurd h ae,λh=>absurd h ae,a.pick [1,2,3,4,5,6]⟩
       case measure=>simp[cw]<;>omega
    .have apt:¬(q:Int)<(L.length:Int):=ae;obtain rfl:q=L.length:=ae;go_step;refine ag ?_;refine bP ?_;by_cases G:L.length=2
     .have aoq:(L.length:Int)=2:=ae;obtain⟨r,dc,rfl⟩:∃r dc,L=[r,dc]:=by rcases L with _|⟨r,_|⟨dc,_|⟨bm,L⟩⟩⟩<;>first|exact⟨_,_,aa⟩|(simp at G)
      obtain⟨D,cur,N,_,_,_,_,_⟩:=(a.atR 4).blk (Nat.zero_lt_succ _);subst N;have BV:=cm 2;skip;refine ag ?_;refine pl a 3 0 ?_;refine ah ?_;refine pk (ak aB) ?_;refine ct ?_;refine bN a [13] (λ_ _=>aY) (λ_=>λ|13=>ai o #[ay (ab ⟨B,0,af⟩),J R (first:Int),J R (bound:Int),J aG id,J aG (aG.wrap (max r.1.seq dc.1.seq+1)),J aG 0,J aG 0,J R 0,J R 0,ad af 0 0,ak au] 233|_=>emp) (λ|13=>[2]|_=>[]) (λ|0=>[1]|1=>[3]|4=>[4]|5=>[3]|8=>[4]|_=>[]) (λ_=>[]) [0,1,3,4,5,19] (λl=>?_);refine dl 0 0 ?_;refine dl 0 0 ?_;refine aL _ (λ_ _ _=>cH 235 137 5 _ _ aa xR aw D 0 2 c 0 0 aa aa bh aa) ?_;refine aK ?_;refine aL _ (λ_ _ a=>T5 (a.atR 0) (i:=0) aa aa aa aw) ?_;refine dl 0 0 ?_;refine aL _ (λ_ _ _=>cH 235 137 5 _ _ aa xR aw D 0 2 c 1 5 aa aa bh aa) ?_;refine aK ?_;refine aL _ (λ_ _ a=>T5 (a.atR 0) (i:=5) aa aa aa aw) ?_;refine aL _ (λ_ _ _=>by(go_simp;try with_reducible rfl)) ?_;refine gB (J aG (aG.wrap (max r.1.seq dc.1.seq+1))) ?_;refine bp ?_;refine fY _ ?_;refine bQ λmm a=>?_;have gd:aG.wrap (max r.1.seq dc.1.seq+1)=k.next:=by rw[W5];rfl
      have RL:([r,dc]).length<=1073741824:=by show 2<=_;omega
      have U:aE (∀W,Row 0 W _ _ c 137 5 _->(xx _).p W->aD _ 133 _ W λe w'=>∃P V,e=aA (bg #[av #[J aG _,J aG _,J R _,J R _,ad P _ V],ak _])/\b3 W w' _):=hid (λW h hd=>by have q:=acZ id _ c _ W RL h (λn=>(K n).1) (λn=>(K n).2) (λx hx=>⟨(hd x hx).1,Du x hx⟩);rw[<-M.1,<-M.2]at q;exact q);refine ct ?_;refine bN a [4,10,13] (λi u=>match i with|4=>bg #[av #[J aG k.last.seq,J aG k.last.id,J R k.last.cur,J R k.last.off,ad u.A k.last.data.length u.c],ak k.has]|_=>aY) (λl=>λ|4=>cc ((l 4).A) ((l 4).c) k.last.data|10=>ai o #[ay (ab ⟨B,0,af⟩),J R (first:Int),J R (bound:Int),J aG id,J aG (aG.wrap (max r.1.seq dc.1.seq+1)),J aG k.last.seq,J aG k.last.id,J R k.last.cur,J R k.last.off,ad (l 4).A k.last.data.length (l 4).c,ak au] 233|13=>ai o #[ay (ab ⟨B,0,af⟩),J R (first:Int),J R (bound:Int),J aG id,J aG (aG.wrap (max r.1.seq dc.1.seq+1)),J aG k.last.seq,J aG k.last.id,J R k.last.cur,J R k.last.off,ad (l 4).A k.last.data.length (l 4).c,ak k.has] 233|_=>emp) (λ|10=>[5]|13=>[16]|_=>[]) (λ|0=>[1]|1=>[1]|3=>[2]|4=>[3,4]|_=>[]) (λ|4=>[4]|10=>[4]|13=>[4]|_=>[]) [0,1,2,3,4,10,19] (λl=>?_);refine dl 0 0 ?_;refine dl 0 0 ?_;refine aK ?_;refine dl 0 0 ?_;refine df (λwl Fr a=>(U _ (a.atR 0) (a.at 1)).mono ?_) ?_;·rintro e dm ⟨S,Y,rfl,hF⟩;exact⟨{A:=S,c:=Y},aa,a.new _ hF⟩
      refine oL ?_;refine fY _ ?_;refine bp ?_;refine fY _ ?_;refine bQ λnX a=>?_;generalize (l 4).A=Q at a⊢;generalize (l 4).c=X at a⊢;refine ag ?_;refine pl a 1 0 ?_;refine dP ?_;replace a:=(a.pick (l':=[ai o _ 233,cc Q X _]) [6,5]).star;rw[gd]at a;go_wp2_with fail;go_ret2;exact⟨_,aa,_,_,a.fresh 0⟩
     .have aoq:¬(L.length:Int)=2:=ae;refine ag ?_;refine pl a 3 0 ?_;refine ah ?_;refine cb (ak au) ?_;refine an ?_
      have gd:nx=k.next:=by
       rw[W5];rcases lJ L.length with n|n;·rw[lR n,jH n];rfl
       .exact nM ae ae
      have RL:(L).length<=1073741824:=ae;have U:aE (∀W,Row 0 W A _ c 137 5 _->(xx L).p W->aD _ _ _ W λe w'=>∃P V,e=aA (bg #[av #[J _ _,J _ _,J _ _,J _ _,ad P _ V],ak _])/\b3 W w' _):=hid (λW h hd=>by have q:=acZ id A c L W RL h (λn=>(K n).1) (λn=>(K n).2) (λx hx=>⟨(hd x hx).1,Du x hx⟩);rw[<-M.1,<-M.2]at q;exact q);refine ct ?_;refine bN a [4,10,13] (λi u=>match i with|4=>bg #[av #[J aG k.last.seq,J aG k.last.id,J R k.last.cur,J R k.last.off,ad u.A k.last.data.length u.c],ak k.has]|_=>aY) (λl=>λ|4=>cc ((l 4).A) ((l 4).c) k.last.data|10=>ai o #[ay (ab ⟨B,0,af⟩),J R (first:Int),J R (bound:Int),J aG id,J aG nx,J aG k.last.seq,J aG k.last.id,J R k.last.cur,J R k.last.off,ad (l 4).A k.last.data.length (l 4).c,ak au] 233|13=>ai o #[ay (ab ⟨B,0,af⟩),J R (first:Int),J R (bound:Int),J aG id,J aG nx,J aG k.last.seq,J aG k.last.id,J R k.last.cur,J R k.last.off,ad (l 4).A k.last.data.length (l 4).c,ak k.has] 233|_=>emp) (λ|10=>[2]|13=>[16]|_=>[]) (λ|0=>[1]|1=>[1]|3=>[3]|4=>[4,5]|_=>[]) (λ|4=>[4]|10=>[4]|13=>[4]|_=>[]) [0,1,3,4,5,10,19] (λl=>?_);refine dl 0 0 ?_;refine dl 0 0 ?_;refine aK ?_;refine dl 0 0 ?_;refine df (λwl Fr a=>(U _ (a.atR 0) (a.at 1)).mono ?_) ?_;·rintro e dm ⟨S,Y,rfl,hF⟩;exact⟨{A:=S,c:=Y},aa,a.new _ hF⟩
      refine oL ?_;refine fY _ ?_;refine bp ?_;refine fY _ ?_;refine bQ λpd a=>?_;generalize (l 4).A=Q at a⊢;generalize (l 4).c=X at a⊢;refine ag ?_;refine pl a 1 0 ?_;refine dP ?_;replace a:=(a.pick (l':=[ai _ _ 233,cc Q X _]) [6,5]).star;rw[gd]at a;go_wp2_with fail;go_ret2;exact⟨_,aa,_,_,a.fresh 0⟩
def aoi(n:Nat)w(h1:n<=140737488355328):
 aD ax 185 #[ad af 0 0,J R (n:Int)] w λe w'=>∃A c,e=aA (ad A 0 c)/\Row w.heap.size w' A 0 c 5 1 []/\aq w w':=
 (ZM n w h1).mono (λe w' ⟨v,h1,a,b⟩=>by
  rcases a.2 with⟨rfl,_⟩|⟨g,cap,cur,rfl,_⟩;·grind
  .grind)
def ak3{P o}{a:Act}{w}t(x y)e(b:o.op=.binOp .rem t x y e)(p:Nat)(hx:a.eval x=J aG (p:Int))(d:a.eval y=J aG 2):
 (bt a.eval o).run P w=a7 (c8 (J aG ((p%2:Nat):Int))) w:=by
 have c:(p:Int).tmod 2=((p%2:Nat):Int):=aS;unfold bt;simp[b,hx,d,eqGuard,binOp,Op.intDiv,c]
def alN w:
 aD ax 93 #[ad af 0 0] w λe w'=>∃A c,e=aA (ad A 0 c)/\Row w.heap.size w' A 0 c 5 1 []/\aq w w':=by
 go_enter func93,ntmps93;have a:=bf w;go_step;refine ag ?_;refine ah ?_;refine ag ?_;refine ah ?_;refine ag ?_;refine v3 ?_;refine an ?_;go_wp2_with fail;go_loopw [3,11] (λd b wr=>d=J R 0/\b=J R 0/\aj w (λ_=>False) wr []) (λd b wr=>0);case atStart=>grind
 case round=>
  clear a;obtain⟨rfl,rfl,a⟩:=hrel;go_step;refine ag ?_;refine cJ ?_;refine a6 (aoi 0 _ ae) ?_;rintro e w1 ⟨f,bA,rfl,h,g⟩;replace a:=a.k8 g h;refine ba ?_;refine ah ?_;refine ag ?_;refine v3 ?_;refine an ?_;go_wp2_with fail;go_loopw [6,27] (λd b wr=>d=ad f 0 bA/\b=J R 0/\aj w (λ_=>False) wr [bn f 0 bA 5 1 []]) (λd b wr=>0);case atStart=>grind
  case round=>
   clear a;obtain⟨rfl,rfl,a⟩:=hrel;go_step;refine ag ?_;refine ah ?_;refine ag ?_;refine dP ?_;go_wp2_with fail;go_ret;exact⟨f,bA,aa,(a.fresh 0).row,a.only⟩
def S8(dw B first bound)id j A c w(b:Has w (p3 dw B first bound id j A c))(o:j.last.data.length<=140737488355328):
 aD ax 58 #[ay (ab ⟨dw,0,af⟩)] w λe w'=>match j.has with|false=>e=aA (bg #[av M7,ak au])/\aq w w'|true=>∃d f,e=aA (bg #[av (recC j.last d f),ak aB])/\b3 w w' (cc d f j.last.data):=by
 have q:=hid b;cases hh:j.has with
 |false=>
  have i:aE (aW w dw _ 233):=hid (by have h:=b.1.1;rw[Ml,hh]at h;exact h);clear b hh;go_enter Tryz.func58,Tryz.ntmps58;have a:=bf w;go_step;refine ag ?_;refine bx a #[J _ 0,J _ 0,J _ 0,J _ 0,ad _ 0 0] (λk w1 a=>?_);refine cJ ?_;refine pk (ak au) ?_;refine v4 ?_;refine iK i a.only ?_;refine C4 ?_;refine a' a 0 (av #[J aG 0,J aG 0,J R 0,J R 0,ad af 0 0]) (λr a=>?_);refine bP ?_;go_wp2_with fail;refine dn (v:=_) (mP aa aa aa (a.aZ 0) aw aw) aa (⟨aa,a.only⟩)
 |true=>
  have i:aE (aW w dw _ 233):=hid (by have h:=b.1.1;rw[Ml,hh]at h;exact h);have l:aE (∀W,aq w W->aD _ 65 _ W λe w'=>∃d f,e=aA _/\e2 _ w' d f _/\aq W w'):=hid (λW g=>(wW A c _ W (b.1.2.1.1.aH g) o).mono (λe w' ⟨d,f,h1,m,n⟩=>⟨d,f,h1,Row.nV m,n⟩));clear b hh;go_enter Tryz.func58,Tryz.ntmps58;have a:=bf w;go_step;refine ag ?_;refine bx a #[J _ 0,J _ 0,J _ 0,J _ 0,ad _ 0 0] (λk s a=>?_);refine cJ ?_;refine pk (ak au) ?_;refine v4 ?_;refine iK i a.only ?_;refine v2 ?_;refine jt ?_;refine aI (av #[J aG j.last.seq,J aG j.last.id,J R j.last.cur,J R j.last.off,ad A j.last.data.length c]) (mg (cs':=#[J aG j.last.seq,J aG j.last.id,J R j.last.cur,J R j.last.off,ad A j.last.data.length c]) aa aa (aW.aH i.out a.only) aw (of_decide_eq_true aw) aw aw) ?_;refine bx a #[J _ 0,J _ 0,J _ 0,J _ 0,ad _ 0 0] (λp t a=>?_);refine a' a 0 (av _) (λu a=>?_);refine b4 ?_;refine pl a 0 4 ?_;refine a6 (l _ a.only) ?_;rintro e x ⟨aJ,c2,rfl,b,g⟩;replace a:=a.js g b;refine ba ?_;refine ah ?_;refine a' a 1 (ad aJ _ c2) (λy a=>?_);refine ag ?_;refine bq a 1 #[J aG j.last.seq,J aG j.last.id,J R j.last.cur,J R j.last.off,ad aJ j.last.data.length c2] ?_;refine a' a 2 (av _) (λz a=>?_);refine bP ?_;go_wp2_with fail;refine dn (v:=_) (mP aa aa aa (a.aZ 2) aw aw) aa (⟨aJ,c2,aa,a.fresh 0⟩)
def jz(d:dL)(first bound:Nat)(id:Nat)(j:oQ)(nx cu of:Nat)(ds:List Int):Int×oQ×dL:=
 let wr:=ma d (uq d first bound (nx%2)) (vw nx id cu of ds)
 if wr.1≠0 then(wr.1,j,wr.2)
 else if(l9 wr.2).1≠0 then((l9 wr.2).1,j,(l9 wr.2).2)
 else(0,⟨aG.wrap ((nx:Int)+1),⟨(nx:Int),(id:Int),(cu:Int),(of:Int),ds⟩,aB⟩,(l9 wr.2).2)
theorem akD(a b c d e):(iS [(a,8),(b,8),(c,8),(d,8),(e,4)]).length=36:=aS
theorem Zb(nx id cu of)ds:(vw nx id cu of ds).length=44+ds.length:=by unfold vw AJ Fq sW K8;grind[jT,akD]
def ZA{d o bs}(a:dR d)(f:o+bs.length<=d.bytes.length)(b:d.down=au)(e:d.cache.length<=1000000000):dR (ma d o bs).2:=by
 have hsm:d.bytes.length<=1048576:=by rw[a.len];exact a.small
 have key:∀(l:List _) k cD,DV d cD k->d.cache.length+k+l.length<1073741824->dR (l.foldl (mn o bs) (0,cD)).2:=by
  intro l;induction l with
  |nil=>intro k cD h _;exact h.ok
  |cons x l i=>
   intro k cD h hk;rw[jT]at hk;rw[zF];by_cases hx:(mn o bs (0,cD) x).1=0;·have c:=h.step ae hx;grind
   .rw[NC l _ hx];unfold mn;rw[if_neg aT];exact Ux h.ok _ _ (by have:=h.ek;omega)
 refine key _ 0 d ⟨a,aa,aa,b,cm _⟩ ?_
 have g:(oI d.size o bs.length).length<=d.bytes.length+1:=by
  rw[oI,gU,DR];unfold fg;split;·omega
  .exact zK (eC (GP _ _) (eC (zH _ _) ae))
 omega
def acb (dw B first bound id nx cu of:Nat) j A c m d ds adW w (hs:Has w (both (p3 dw B first bound (id:Int) j A c) (aN B m d))) (O:j.next=(nx:Int)) (r:kk d first bound) (M:d.down=au) (N:d.cache.length<=1000000000) (Ev:ds.length<=bound) (D:nx<18446744073709551616/\id<18446744073709551616/\cu<=4611686018427387903/\of<=4611686018427387903)
 (hp:∀W,ar (both (p3 dw B first bound (id:Int) j A c) (aN B m d)).c5 w W->aD ax 93 #[adW] W λe w'=>∃E F,e=aA (ad E ds.length F)/\e2 W.heap.size w' E F ds/\aq W w'):
 aD ax 227 #[ay (ab ⟨dw,0,af⟩),J R (cu:Int),J R (of:Int),adW] w λe w'=>e=aA (J R (jz d first bound id j nx cu of ds).1)/\∃E F aU,Turned w w' (both (p3 dw B first bound (id:Int) j A c) (aN B m d)) (both (p3 dw B first bound (id:Int) (jz d first bound id j nx cu of ds).2.1 E F) (aN B aU (jz d first bound id j nx cu of ds).2.2)):=by
 obtain⟨hb1,hb2,hb3⟩:=r.small;have ue:nx%2<=1:=ae;have EK:=r.room ue;obtain⟨z,P⟩:=ex (uq d first bound (nx%2));obtain⟨Q,G⟩:=ex (vO d bound);have o3:bound+44<=Q:=by rw[<-G];exact auY r.dev.mj
 rw[P,G]at EK;obtain⟨bs,Y⟩:=ex (vw nx id cu of ds);have hbl:bs.length=44+ds.length:=by grind[Zb]
 obtain⟨bo,Z⟩:=ex ((ma d z bs).1);obtain⟨o,L⟩:=ex ((ma d z bs).2);obtain⟨k,hce⟩:=ex ((l9 o).1);obtain⟨n,Et⟩:=ex ((l9 o).2);have EG:dR o:=by rw[<-L];exact ZA r.dev ae M N
 have ayZ:=r.eY;have hap:jz d first bound id j nx cu of ds=if bo≠0 then(bo,j,o)else if k≠0 then(k,j,n)else(0,⟨aG.wrap ((nx:Int)+1),⟨(nx:Int),(id:Int),(cu:Int),(of:Int),ds⟩,aB⟩,n):=by grind[jz]
 have bI:=hid hp;have Gj:=hid (λW ac b0 h=>by have q:=atP nx id cu of ac b0 ds W ⟨D.1,D.2.1,D.2.2.1,D.2.2.2,ae⟩ h;rw[Y]at q;exact q);have je:aE (∀W,Has W _->aD _ 131 _ W λe w'=>e=aA (av #[J _ (z:Int),J R (Q:Int)])/\aq W w'):=hid (λW h=>by have q:=acd B m d _ _ W h r _ ue;rw[P,G]at q;exact q);have sv:=hid (λW p fJ dB h I h3 h4 h5=>by have q:=ZD B m d z p fJ dB bs W h r.dev M ae N I h3 h4 h5;rw[Z,L]at q;exact q);have lH:=hid (λW S h=>by have q:=Y3 B S o W h EG;rw[hce,Et]at q;exact q);have x:=hid hap;have ln:=hid hbl;clear hbl hp D P G Y Z L hce Et hap EG r M N;go_enter func227,ntmps227;have a:aj w (both (p3 dw B first bound (id:Int) j A c) (aN B m d)).c5 w [ai dw #[ay (ab ⟨B,0,af⟩),J R (first:Int),J R (bound:Int),J aG (id:Int),J aG (nx:Int),J aG j.last.seq,J aG j.last.id,J R j.last.cur,J R j.last.off,ad A j.last.data.length c,ak j.has] 233,cc A c j.last.data,aN B m d]:=by have h:=(aj.start (t:=_) hs).fh.fh;rw[Ml,O]at h;exact h
 go_step;refine ag ?_;refine cJ ?_;refine pk (ak au) ?_;refine ct ?_;refine bN a [11,13,14] (λi u=>match i with|11=>ad u.A ds.length u.c|13=>ay (ab ⟨u.b,0,af⟩)|_=>aY) (λf=>λ|11=>cc ((f 11).A) ((f 11).c) ds|13=>ai ((f 13).b) #[J aG 0,J aG 0,J R 0,J R 0,ad af 0 0] 137|14=>ai ((f 13).b) #[J aG (nx:Int),J aG (id:Int),J R (cu:Int),J R (of:Int),ad (f 11).A ds.length (f 11).c] 137|_=>emp) (λ|14=>[16]|_=>[]) (λ|3=>[0]|7=>[0]|_=>[]) (λ|11=>[11]|13=>[13]|14=>[11,13]|_=>[]) [0,1,2,14,17] (λf=>?_);refine c7 ?_;refine dl 0 4 ?_;refine c7 ?_;refine dl 0 3 ?_;refine c7 ?_;refine df (λwl Fr a=>(bI _ a.only).mono ?_) ?_;·rintro e dm ⟨nv,aln,rfl,uk,g⟩;exact⟨{A:=nv,c:=aln},aa,a.js g uk⟩
 refine aK ?_;refine qB _ ?_;refine fY _ ?_;refine bQ λw1 a=>?_;generalize (f 11).A=T at a⊢;generalize (f 11).c=V at a⊢;generalize (f 13).b=jO at a⊢;refine ag ?_;refine bq a 4 #[J aG (nx:Int),J aG (id:Int),J R (cu:Int),J R (of:Int),ad T ds.length V] ?_;refine a6 (Gj _ _ _ (a.lr 3).1) ?_;rintro e aR ⟨U,X,rfl,hF⟩;replace a:=a.new _ hF;refine ba ?_;refine v5 ?_;refine ct ?_;refine bN a [] (λ_ _=>aY) (λ_ _=>emp) (λ_=>[]) (λ|4=>[5]|10=>[1]|_=>[]) (λ_=>[]) [0,1,2,3,4,5] (λf=>?_);refine aK ?_;refine gB (ak au) ?_;refine bp ?_;refine dl 0 4 ?_;refine oL ?_;refine dl 0 2 ?_;refine aL (ak au) (λ_ _ _=>by(go_simp;try omega)) ?_;refine aK ?_;refine bQ λbL a=>?_;refine ct ?_;refine bN a [15,18,19] (λi u=>match i with|15=>av #[J R (z:Int),J R (Q:Int)]|18=>ad (ab ⟨u.b,0,af⟩) 1 1|19=>J R bo|_=>aY) (λf=>λ|18=>ai ((f 18).b) #[ad U bs.length X] 22|19=>aN B (f 19).m o|_=>emp) (λ|19=>[3]|_=>[]) (λ|4=>[1]|8=>[1]|12=>[1]|15=>[3]|19=>[0,24]|_=>[]) (λ|18=>[18]|19=>[19]|_=>[]) [0,1,2,4,5,21,24,25] (λf=>?_);refine iw ?_;refine dl 0 0 ?_;refine c7 ?_;refine ea 0 #[ay (ab ⟨B,0,af⟩),J R (first:Int),J R (bound:Int)] ?_;refine c7 ?_;refine dl 0 4 ?_;refine aL _ (λ_ _ _=>ak3 _ _ _ _ aa nx aa aa) ?_;refine aL (J R ((nx%2:Nat):Int)) (λ_ _ _=>by(go_simp;exact IntWalk.i64_in _ ae)) ?_;refine dD (λ_ _ a=>je _ (a.has 0)) ?_;refine gB (J R (z:Int)) ?_;refine aK ?_;refine lM _ 22 ?_;refine df (λwl Fr a=>(sv.out _ _ U X (a.has 0) (aW.cell (a.aZ 2) 0 aa) (λh=>a.ne (i:=0) (j:=2) aa aa bh _ h aa) (a.lr 1).1 (λy h1 I=>a.ne (i:=1) (j:=0) aa aa bh _ h1 I)).mono ?_) ?_;·rintro e dm ⟨rfl,S,K⟩;exact⟨{m:=S},aa,a.y' K⟩
 refine aK ?_;refine bQ λca a=>?_;generalize (f 18).b=axn at a⊢;generalize (f 19).m=az2 at a⊢;replace a:=a.drop 5;by_cases hz:bo=0
 .have hc1:(if bo≠0 then(bo,j,o)else if k≠0 then(k,j,n)else(0,(⟨_,_,aB⟩:oQ),n))=if k≠0 then(k,j,n)else(0,(⟨aG.wrap ((nx:Int)+1),⟨(nx:Int),(id:Int),(cu:Int),(of:Int),ds⟩,aB⟩:oQ),n):=if_neg (λh=>h hz);have s:=hid hc1;clear hc1;subst hz;refine b4 ?_;refine pk (ak au) ?_;refine oM ?_;refine pl a 1 0 ?_;refine a6 (lH _ _ (a.has 6)) ?_;rintro e cF ⟨rfl,m3,K⟩;replace a:=a.eF 6 K;refine FM ?_;by_cases H:k=0;·have C:=hid (show(if k≠0 then(k,j,n)else(0,(⟨aG.wrap ((nx:Int)+1),⟨(nx:Int),(id:Int),(cu:Int),(of:Int),ds⟩,aB⟩:oQ),n))=_ from if_neg (λh=>h H));subst H;refine b4 ?_;refine pk (ak au) ?_;refine ja ?_;refine bq a 4 #[J aG (nx:Int),J aG (id:Int),J R (cu:Int),J R (of:Int),ad T ds.length V] ?_;refine v2 ?_;refine a' a 1 (av _) (λc6 a=>?_);refine v2 ?_;refine a' a 1 (ak _) (λdW a=>?_);refine jt ?_;refine pl a 1 4 ?_;refine pk (J aG (aG.wrap ((nx:Int)+1))) ?_;refine v2 ?_;refine a' a 1 (J _ _) (λdG a=>?_);refine ag ?_;refine ah ?_;refine an ?_;have v:=a.pk [1,3,6];go_wp2_with fail;go_ret;exact⟨by rw[x,s,C];rfl,_,_,m3,by rw[x.out,s.out,C.out];refine aj.gi (l:=[_]) (i:=0) ?_;show aj _ _ _ [both (both (ai dw _ _) (cc _ _ _)) (aN B _ _)];exact v.star.star⟩
  .have C:=hid (show(if k≠0 then(k,j,n)else(0,(⟨aG.wrap ((nx:Int)+1),⟨(nx:Int),(id:Int),(cu:Int),(of:Int),ds⟩,aB⟩:oQ),n))=_ from if_pos H);have aqc:=H;refine b4 ?_;refine aI (ak aB) (by(go_simp;try simp[aqc])) ?_;refine ag ?_;refine dP ?_;have v:=a.pk [1,2,6];rw[<-O]at v;go_wp2_with fail;go_ret;exact⟨by rw[x,s,C];rfl,A,c,m3,by rw[x,s,C];refine aj.gi (l:=[_]) (i:=0) ?_;show aj _ _ _ [both (both (ai dw _ _) (cc _ _ _)) (aN B _ _)];exact v.star.star⟩
 .have s:=hid (show(if bo≠0 then(bo,j,o)else if k≠0 then(k,j,n)else(0,(⟨aG.wrap ((nx:Int)+1),⟨(nx:Int),(id:Int),(cu:Int),(of:Int),ds⟩,aB⟩:oQ),n))=_ from if_pos hz);have Mh:=hz;refine b4 ?_;refine aI (ak aB) (by(go_simp;try simp[Mh])) ?_;refine ag ?_;refine dP ?_;have v:=a.pk [1,2,6];rw[<-O]at v;go_wp2_with fail;go_ret;exact⟨by rw[x,s];rfl,A,c,_,by rw[x.out,s.out];refine aj.gi (l:=[_]) (i:=0) ?_;show aj _ _ _ [both (both (ai dw _ _) (cc _ _ _)) (aN B _ _)];exact v.star.star⟩
def k6(size bound N:Nat):Nat:=(fg size 0 N).2+2*jZ size bound
def rX(size bound N:Nat):Array Value:=#[J R (size:Int),J R (bound:Int),J R 0,J R (N:Int),J R ((fg size 0 N).2:Int),J R ((2*jZ size bound:Nat):Int),J R ((k6 size bound N:Nat):Int)]
theorem auN(s N):(fg s 0 N).2<=N+1:=by
 unfold fg;split;·omega
 .exact zK (eC (GP _ _) (eC (zH _ _) ae))
theorem auZ(s b):jZ s b<=b+44:=zK (zH _ _)
def ard(size bound o n:Nat)(h1:1<=size/\size<=1048576)(i:1<=bound/\bound<=65536)(t:o<=1048576)(u:n<=1048576)w:
 aD ax 48 #[J R (size:Int),J R (bound:Int),J R (o:Int),J R (n:Int)] w λe w'=>e=aA (bg #[av (rX size bound (max o n)),J R 0])/\aq w w':=by
 obtain⟨N,j⟩:=ex (max o n);rw[j];have k:max (o:Int) (n:Int)=(N:Int):=ae;have l:=hid k;have x:N<=1048576:=ae;obtain⟨b,d⟩:=ex ((fg size 0 N).2);obtain⟨nU,c⟩:=ex (jZ size bound);have y:b<=N+1:=by grind[auN]
 have A:nU<=bound+44:=by grind[auZ]
 have hs1:1<=nU:=by rw[<-c];exact zK (cQ _)
 have hlc:rX size bound N=#[J R (size:Int),J R (bound:Int),J R 0,J R (N:Int),J R (b:Int),J R ((2*nU:Nat):Int),J R ((b+2*nU:Nat):Int)]:=by rw[rX,k6,d,c]
 rw[hlc];have p:=hid (λW=>by have q:=acg _ _ h1.1 i.1 i.2 W;rw[c]at q;exact q);have m:aE (∀W,aD _ _ #[J _ _,av #[J _ 0,J _ (N:Int)]] W λe w'=>∃z,e=aA (av #[J _ z,J _ (b:Int)])/\aq W w'):=hid (λW=>by have q:=aeA _ 0 N ⟨h1.1,ae⟩ ae W;rw[d]at q;exact q.mono (λ_ _ h=>⟨_,h⟩));clear j k d c hlc;go_enter func48,ntmps48;have a:=bf w;go_step;refine ag ?_;refine bx a #[J _ 0,J _ 0,J _ 0,J _ 0,J _ 0,J _ 0,J _ 0] (λs w1 a=>?_);refine ku ?_;refine bA (p.out _) a (λD a=>?_);refine cJ ?_;refine cb (ak au) ?_;refine ja ?_;refine bA (xB 0 (o:Int) _ ⟨ae,ae,ae⟩) a (λE a=>?_);refine v4 ?_;refine bA (xB 0 (n:Int) _ ⟨ae,ae,ae⟩) a (λF a=>?_);refine v2 ?_;refine oM ?_;refine aI (J R (N:Int)) (by(have h:=l.out;go_simp;try simp[h];try with_reducible rfl)) ?_;refine v2 ?_;refine bx a #[J _ 0,J _ 0,J _ 0,J _ 0,J _ 0,J _ 0,J _ 0] (λr G a=>?_);refine a' a 0 (av _) (λH a=>?_);refine ja ?_;refine bq a 0 #[J R 0,J R (N:Int)] ?_;refine a6 (m _) ?_;rintro e I ⟨M,rfl,g⟩;replace a:=a.aH g;refine ba ?_;refine pk (J R (b:Int)) ?_;refine ah ?_;refine aI _ (nH 3 _ _ 3 aa 2 _ ((2*nU:Nat):Int) aa aa ae ae ae) ?_;refine v2 ?_;refine a' a 0 (av #[J R _,J _ ((2*nU:Nat):Int)]) (λK a=>?_);refine b4 ?_;refine bq a 0 #[J R (b:Int),J R ((2*nU:Nat):Int)] ?_;refine bA (lN (b:Int) ((2*nU:Nat):Int) _ ae ae ae) a (λL a=>?_);refine ah ?_;refine a' a 0 (J _ _) (λB a=>?_);refine ag ?_;refine bq a 0 #[J R (size:Int),J R (bound:Int),J R 0,J R (N:Int),J R (b:Int),J R ((2*nU:Nat):Int),J R ((b:Int)+((2*nU:Nat):Int))] ?_;refine a' a 1 (av _) (λC a=>?_);refine bP ?_;have f:(b:Int)+((2*nU:Nat):Int)=((b+2*nU:Nat):Int):=ae;rw[f]at a;clear f;go_wp2_with fail;refine dn (v:=_) (mP aa aa aa (a.aZ 1) aw aw) aa (⟨aa,a.only⟩)
def acI(size bound o n:Nat)(g1 g2)S(h1:1<=size/\size<=1048576)(b:1<=bound/\bound<=65536)(c:o<=1048576)(d:n<=1048576)w:
 aD ax 39 #[J R (size:Int),J R (bound:Int),dC (o:Int) (n:Int) g1 g2 S] w λe w'=>e=aA (bg #[av (rX size bound (max o n)),J R 0])/\aq w w':=by
 go_enter func39,ntmps39;have a:=bf w;go_step;refine ag ?_;refine bM a (av _) (λf w1 a=>?_);refine bx a #[J _ 0,J _ 0,J _ 0,J _ 0,J _ 0,J _ 0,J _ 0] (λg h a=>?_);refine UJ ?_;refine pl a 1 0 ?_ (hv:=mA);refine ah ?_;refine pl a 1 1 ?_ (hv:=jh);refine bA (ard _ _ o n h1 b c d _) a (λi a=>?_);refine v2 ?_;refine a' a 0 (av #[J R _,J R _,J R 0,J R _,J R _,J R _,J R _]) (λj a=>?_);refine bP ?_;go_wp2_with fail;refine dn (v:=_) (mP aa aa aa (a.aZ 0) aw aw) aa (⟨aa,a.only⟩)
def acy(size bound N B)m d w(g:Has w (aN B m d))(b:dR d)(hsz:d.size=size)(h:k6 size bound N<=d.cnt):
 aD ax 52 #[av (rX size bound N),dh B] w λe w'=>e=aA (J R 0)/\aq w w':=by
 have c:=hid g;have n:=b.BJ;clear g;obtain⟨j,f⟩:=ex (k6 size bound N);rw[f]at h;have hlc:rX size bound N=#[J R (size:Int),J R (bound:Int),J R 0,J R ((N:Nat):Int),J R ((fg size 0 N).2:Int),J R ((2*jZ size bound:Nat):Int),J R (j:Int)]:=by grind[rX]
 rw[hlc];subst hsz;clear f hlc;go_enter func52,ntmps52;have a:=bf w;go_step;refine ag ?_;refine bM a (av _) (λl w1 a=>?_);refine cJ ?_;refine pk (ak au) ?_;refine ig ?_;refine bN a [1] (λi _=>match i with|1=>J R (d.size:Int)|_=>aY) (λ_ _=>emp) (λ_=>[]) (λ|3=>[0]|_=>[]) (λ_=>[]) [0,2] (λk=>?_);refine aK ?_;refine dD (λ_ _ a=>wY B m d _ (c.out.aH a.only).dev b) ?_;refine aK ?_;refine dl 0 0 ?_;refine aL (ak au) (λ_ _ _=>by(go_simp;try simp)) ?_;refine aK ?_;refine bQ λo a=>?_;replace a:=a.drop 1;refine ct ?_;refine bN a [1] (λi _=>match i with|1=>J R (d.cnt:Int)|_=>aY) (λ_ _=>emp) (λ_=>[]) (λ|3=>[0]|_=>[]) (λ_=>[]) [0,2] (λk=>?_);refine aK ?_;refine dD (λ_ _ a=>Lc B m d _ (c.out.aH a.only).dev b) ?_;refine aK ?_;refine dl 0 6 ?_;refine aL (ak au) (λ_ _ _=>by(go_simp;try omega)) ?_;refine aK ?_;refine bQ λp a=>?_;replace a:=a.drop 1;refine ag ?_;refine ah ?_;refine an ?_;go_wp2_with fail;go_ret;exact⟨aa,a.only⟩
def acq{s N e x}(b:1<=s):N<=s*((fg s 0 N).2+x+e):=by
 rcases lJ N with h|h;·omega
 .have h1:(fg s 0 N).2=(N -1)/s+1:=by unfold fg;rw[if_neg ae];simp
  have a:N<=s*(fg s 0 N).2:=by rw[h1,Nat.mul_succ];have c:=aj5 (N -1) s;have d:=XO (N -1) b;omega
  exact eC a (Nat.mul_le_mul_left _ ae)
def arp(size bound N ex p)A c b w(h1:1<=size)(hc:size*(k6 size bound N+ex)<=1048576)(hb1:b.length<=N)(l:w.cell? ⟨p,0,af⟩=ab (ad A b.length c))(hb:bR w A b):
 aD ax 40 #[av (rX size bound N),J R (ex:Int),ad (ab ⟨p,0,af⟩) 1 1] w λe w'=>∃B m,e=aA (bg #[dh B,J R 0])/\b3 w w' (aN B m (qP size (k6 size bound N+ex) b)):=by
 obtain⟨d,f⟩:∃z,k6 size bound N=z:=⟨_,aa⟩;rw[f]at hc⊢;have hlc:rX size bound N=#[J R (size:Int),J R (bound:Int),J R 0,J R ((N:Nat):Int),J R ((fg size 0 N).2:Int),J R ((2*jZ size bound:Nat):Int),J R (d:Int)]:=by rw[rX,f]
 rw[hlc];have E:1<=d:=by rw[<-f,k6];have:1<=jZ size bound:=zK (cQ _);omega
 have hle:d+ex<=size*(d+ex):=GO _ h1;have hbl:b.length<=size*(d+ex):=eC hb1 (by rw[<-f,k6];exact acq h1);have r:aE (∀W,aq w W->aD _ 93 _ W λe w'=>∃i j,e=aA _/\e2 _ w' i j b/\aq W w'):=hid (λW g=>(G6 p A c b W (g.cell l (λh=>h)) (hb.aH g) ae).mono (λe w' ⟨i,j,h1,s,t⟩=>⟨i,j,h1,Row.nV s,t⟩));have o:=hid (λW q aJ c2 h u=>amM size _ q aJ c2 b W h1 ae hc hbl h u);have k:=acV (size:=_) (cnt:=_) (b:=b) h1 ae hc hbl;have n:=hid (λW B m h=>by have q:=acy size _ N B m _ W h k aa (by rw[f];show d<=d+ex;omega);rw[hlc]at q;exact q);have y:¬size=0:=ae;have F:d+ex<=1048576:=ae;clear l hb f hlc k hle;go_enter func40,ntmps40;have a:=bf w;go_step;refine ag ?_;refine bM a (av _) (λC w1 a=>?_);iterate 2 refine ah ?_
 refine an ?_;go_step;refine ag ?_;refine ah ?_;refine a6 (r _ a.only) ?_;rintro e G ⟨aJ,c2,rfl,x,g⟩;replace a:=a.js g x;refine ba ?_;refine ah ?_;refine an ?_;go_step;refine ag ?_;refine ah ?_;refine aI (ak au) (by(go_simp;try omega)) ?_;iterate 5 refine ah ?_
 refine pl a 1 3 ?_;refine aI (ak au) (by(go_simp;try omega)) ?_;refine ah ?_;refine an ?_;go_step;refine ag ?_;refine ah ?_;refine pl a 1 0 ?_;refine ah ?_;refine pl a 1 6 ?_;refine ah ?_;refine aI _ (lK 3 _ _ 3 aa _ _ ((d+ex:Nat):Int) aa aa ae ae ae) ?_;refine ah ?_;refine f' a #[ad aJ b.length c2] 22 (λD H a=>?_);refine a6 (o _ _ aJ c2 (aW.cell (a.aZ 0) 0 aa) (a.lr 1).1) ?_;rintro e I ⟨B,m,rfl,v⟩;replace a:=a.new _ v;refine ba ?_;refine ah ?_;refine an ?_;go_step;refine ag ?_;refine ah ?_;refine an ?_;go_step;refine ag ?_;refine bq a 3 #[J R (size:Int),J R (bound:Int),J R 0,J R ((N:Nat):Int),J R ((fg size 0 N).2:Int),J R ((2*jZ size bound:Nat):Int),J R (d:Int)] ?_;refine ah ?_;refine aI (ak au) (by(go_simp;try simp[y])) ?_;iterate 2 refine ah ?_
 refine bq a 3 #[J R (size:Int),J R (bound:Int),J R 0,J R ((N:Nat):Int),J R ((fg size 0 N).2:Int),J R ((2*jZ size bound:Nat):Int),J R (d:Int)] ?_;refine ah ?_;refine a6 (n.out _ B m (a.has 0)) ?_;rintro e K ⟨rfl,g⟩;replace a:=a.aH g;refine ba ?_;iterate 2 refine ah ?_
 refine an ?_;go_step;refine ag ?_;iterate 3 refine ah ?_
 refine an ?_;go_wp2_with fail;go_ret2;exact⟨B,m,aa,a.fresh 0⟩
def amx {P:eu} {ops:Array Oper} {rest:List Oper} {Q:Exit->Act->aM->Prop} {o:Oper} {a j:Act} {ao:aM} {FX:Nat->Prop} {dst:Nat->Option Tmp} {LE:List Nat} {e:Nat->e3->aO} {c:List br} {out:(Nat->e3)->Nat->br} {ins rd:Nat->List Nat} {fin:List Nat} {QP:List PanicEntry->aM->Prop} {b:Nat->e3} {i k:Nat} {s:br} (f:e3)
 (hr:∀w (Fr:List br),aj ao FX w ((ins i).map (dk c out b)++((rd i).map (dk c out b)++Fr))->∃w',(bt a.eval o).run P w=a7 (c8 (e i f)) w'/\Turned w w' s (out (dz b i f) i)) (h:c9 P ops Q dst LE e ao FX c out ins rd fin QP b (i+1) rest j)
 (hn:ins i=[k]:=by rfl) (hk:dk c out b k=s:=by rfl) (hd:dst i=o.dst:=by rfl) (hlt:(match o.dst with|some d=>decide (d<a.tmps.size)|none=>au)=true:=by kernel_rfl)
 (hi:decide (i∈LE)=true:=by kernel_rfl) (hw:Region.wanted o (yielded ops a.tmps)=true:=by kernel_rfl) (ha:a.put o.dst (e i (b i))=j:=by((try simp only[Act.put,List.setIfInBounds_toArray,List.set_cons_zero,List.set_cons_succ]);rfl)):c9 P ops Q dst LE e ao FX c out ins rd fin QP b i (o::rest) a:=by
 refine wZ (λw Fr g K n=>?_) h hi ha;rw[if_pos hw];obtain⟨w',h1,m⟩:=hr w Fr g;rw[hn]at g;have l:aj ao FX w (s::((rd i).map (dk c out b)++Fr)):=aF;unfold Oper.wp;rw[h1];show K _ _;refine n f _ _ ?_ (put_defers _ _ _) (l.y' m);rw[hd];cases hq:o.dst with
 |none=>grind
 |some d=>simp only[hq,decide_eq_true_eq]at hlt;simp[lC,Act.eval,Act.put,hlt]
def ep(L:List Nat):Array Value:=(L.map (λ(n:Nat)=>J R (n:Int))).toArray
def Us(B t:Nat)L cs w(hb:aW w B cs t)(hcs:ep L=cs)(g:∀n∈L,(n:Int)<=4611686018427387903)(i:L.length<=1048576):
 aD ax 204 #[ad (ab ⟨B,0,af⟩) L.length L.length] w λe w'=>e=aA (ak aB)/\aq w w':=by
 subst hcs;have d:=hid hb;clear hb;go_enter func204,ntmps204;have a:=bf w;go_step;refine ag ?_;refine dQ ?_;iterate 3 refine ah ?_
 refine an ?_;go_wp2_with fail;go_loopw [7] (λb wr=>∃j:Nat,j<=L.length/\b=J R (j:Int)/\aj w (λ_=>False) wr []) (λb wr=>L.length -(cw b).toNat);case atStart=>grind
 case round=>
  clear a;obtain⟨j,k,rfl,a⟩:=hrel;by_cases hlt:j<L.length
  .have h:(j:Int)<(L.length:Int):=ae;obtain⟨x,hx⟩:∃x,L[j]?=ab x:=⟨_,cj hlt⟩;have l:=g x (cL hx);have c:(ep L)[j]?=ab (J R (x:Int)):=by grind[ep]
   have f:=hid c;clear hx c;go_step;refine ag ?_;refine dQ ?_;refine aI (ay (ab ⟨B,j,af⟩)) (cH 82 3 1 (bb 5) (bb 7) aa ij aw B 0 (L.length) (L.length) j j aa aa hlt ae) ?_;refine aI _ (fy aa aa (aW.aH d a.only) f aw) ?_;refine dQ ?_;iterate 2 refine ah ?_
   refine bA (xB 0 (x:Int) _ ⟨ae,ae,ae⟩) a (λw1 a=>?_);refine dQ ?_;refine pad (j:Int) 1 ((j+1:Nat):Int) ?_;refine bP ?_;go_wp2_with fail;go_roundw;case rel=>exact⟨j+1,ae,aa,a⟩
   case measure=>grind[cw]
  .have h:¬(j:Int)<(L.length:Int):=ae;go_step;refine ag ?_;refine ah ?_;refine ag ?_;refine ah ?_;refine an ?_;go_wp2_with fail;go_ret;exact⟨aa,a.only⟩
def u64_in x(h:0<=x/\x<18446744073709551616):aG.wrap x=x:=by grind[Dj,Di,JF]
def BR(n:Nat)w(c:(n:Int)<=4611686018427387903):
 aD ax 127 #[J R (n:Int)] w λe w'=>e=aA (av #[J aG (n:Int),J R 8])/\aq w w':=by
 go_enter func127,ntmps127;have a:=bf w;go_step;refine ag ?_;refine bx a #[J aG 0,J R 0] (λb w1 a=>?_);refine b4 ?_;refine aI (J aG (n:Int)) (by(go_simp;exact u64_in _ ae)) ?_;refine ah ?_;refine a' a 0 (av #[J aG (n:Int),J R 8]) (λd a=>?_);refine an ?_;go_wp2_with fail;refine dn (v:=_) (jd aa _ _ _ _ _ _ _ aa (a.aZ 0) underlying227 aa aw) aa (⟨aa,a.only⟩)
def amI(o n:Nat)(g1 g2)A c ms w(V:(o:Int)<=4611686018427387903/\(n:Int)<=4611686018427387903)(C:cC w A ms)(hv:∀m∈ms,hX m)(U:ms.length<=1048576):
 aD ax 125 #[dC (o:Int) (n:Int) g1 g2 (ad A ms.length c)] w λe w'=>e=aA (J R 0)/\aq w w':=by
 have I:=hid C;have L:=hv;clear C hv;go_enter func125,ntmps125;have a:=bf w;go_step;refine ag ?_;refine bM a (av (a1 (o:Int) (n:Int) g1 g2 (ad A ms.length c))) (λE w1 a=>?_);refine cJ ?_;refine pl a 0 0 ?_ (hv:=mA);refine ah ?_;refine pl a 0 1 ?_ (hv:=jh);refine f' a #[J R (o:Int),J R (n:Int)] 3 (λF W a=>?_);refine bA (Us F 3 [o,n] _ _ (a.aZ 0) aa (by intro x hx;simp only[gy,ga,or_false]at hx;omega) (by show _<=_;simp)) a (λX a=>?_);refine cJ ?_;refine pl a 1 66 ?_ (hv:=eS);iterate 2 refine ah ?_
 refine an ?_;go_wp2_with fail;go_loopw [3,15] (λok t wr=>∃j:Nat,j<=ms.length/\ok=ak aB/\t=J R (j:Int)/\aj w (λ_=>False) wr [ai E (a1 (o:Int) (n:Int) g1 g2 (ad A ms.length c)) 26]) (λok t wr=>ms.length -(cw t).toNat);case atStart=>exact⟨0,cQ _,aa,aa,a.pick [1]⟩
 case round=>
  clear a;obtain⟨j,T,rfl,rfl,a⟩:=hrel;by_cases hlt:j<ms.length
  .have N:(j:Int)<(ms.length:Int):=ae;obtain⟨m,s⟩:∃m,ms[j]?=ab m:=⟨_,cj hlt⟩;obtain⟨q,i,l,r,v,y,z⟩:=cC.h9 I s;have G:=hid v;have S:=hid y;have H:=hid z;have K:=hid s;clear v y z s;have O:=L m (cL K);go_step;refine ag ?_;refine dQ ?_;refine aI (ay (ab ⟨q,(i+j*5),af⟩)) (cH 24 73 5 (bb 13) (bb 15) aa Tryz.underlying24 aw q i (ms.length) c j ((i+j*5)) (by show ad A _ _=_;rw[G]) aa hlt aa) ?_;refine aI (av #[J R m.k,J R m.to,J R m.fr,J R m.n,ad l m.data.length r]) (by(refine e6 73 (bb 17) aa q (i+j*5) aa ([J R m.k,J R m.to,J R m.fr,J R m.n,ad l m.data.length r]:List aO) (H _ a.only) Tryz.underlying73 aa aw)) ?_;refine bx a #[J R 0,J R 0,J R 0,J R 0,ad af 0 0] (λQ Y a=>?_);refine a' a 0 (av #[J R m.k,J R m.to,J R m.fr,J R m.n,ad l m.data.length r]) (λZ a=>?_);refine b4 ?_;refine pl a 0 0 ?_;refine an ?_;rcases O with⟨hk,⟨u,v2,v3⟩,⟨r9,tb,uG⟩,lR,pS⟩|⟨hk,⟨u,v2,v3⟩,yC,lR,pS⟩
   .simp only at u v2 v3 r9 tb uG;obtain⟨cE,d⟩:∃x:Nat,m.to=(x:Int):=⟨m.to.toNat,ae⟩;obtain⟨di,B⟩:∃x:Nat,m.fr=(x:Int):=⟨m.fr.toNat,ae⟩;obtain⟨P,D⟩:∃x:Nat,m.n=(x:Int):=⟨m.n.toNat,ae⟩;have M:(m.data.length:Int)=0:=by rw[pS];rfl
    have g:=hid hk;have b:=hid d;have f:=hid B;have h:=hid D;clear hk d B D;refine ag ?_;refine dr g (ak aB) ?_;refine dQ ?_;iterate 3 refine ah ?_
    refine pl a 0 1 ?_;refine ah ?_;refine pl a 0 2 ?_;refine ah ?_;refine pl a 0 3 ?_;refine f' a #[J R m.to,J R m.fr,J R m.n] 3 (λp c6 a=>?_);refine bA (Us p 3 [cE,di,P] _ _ (a.aZ 0) (by rw[b,f,h];rfl) (by intro x hx;simp only[gy,ga,or_false]at hx;have:=b.out;have:=f.out;have:=h.out;omega) (by show _<=_;simp)) a (λdW a=>?_);iterate 3 refine ah ?_
    refine pl a 1 4 ?_;refine ah ?_;refine aI (ak aB) (by(go_simp;try simp[M];try omega)) ?_;iterate 2 refine ah ?_
    refine ag ?_;refine pad (j:Int) 1 ((j+1:Nat):Int) ?_;refine bP ?_;go_wp2_with fail;go_roundw;case rel=>exact⟨j+1,ae,aa,aa,a.pick [2]⟩
    case measure=>simp[cw]<;>omega
   .simp only at u v2 v3;obtain⟨cE,d⟩:∃x:Nat,m.to=(x:Int):=⟨m.to.toNat,ae⟩;have g:=hid hk;have b:=hid d;have f:=hid yC;have h:=hid lR;clear hk d yC lR;refine ag ?_;refine dr g (ak au) ?_;refine dQ ?_;refine dr g (ak aB) ?_;refine dQ ?_;iterate 3 refine ah ?_
    refine pl a 0 1 ?_;refine f' a #[J R m.to] 3 (λp dG a=>?_);refine bA (Us p 3 [cE] _ _ (a.aZ 0) (by rw[b];rfl) (by intro x hx;simp only[gy,ga,or_false]at hx;have:=b.out;omega) (by show _<=_;simp)) a (λe8 a=>?_);iterate 3 refine ah ?_
    refine pl a 1 2 ?_;refine dr f (ak aB) ?_;iterate 3 refine ah ?_
    refine pl a 1 3 ?_;refine dr h (ak aB) ?_;iterate 2 refine ah ?_
    refine ag ?_;refine pad (j:Int) 1 ((j+1:Nat):Int) ?_;refine bP ?_;go_wp2_with fail;go_roundw;case rel=>exact⟨j+1,ae,aa,aa,a.pick [2]⟩
    case measure=>simp[cw]<;>omega
  .have N:¬(j:Int)<(ms.length:Int):=ae;go_step;refine ag ?_;refine dQ ?_;iterate 2 refine ah ?_
   refine ag ?_;refine ah ?_;refine an ?_;go_wp2_with fail;go_ret;exact⟨aa,a.only⟩
namespace G
section
variable {w w':aM} {F G:Nat->Prop} {b:Nat} {n:Int} {E:List (Int×Int)} {A:Option bU} {c:Nat}
structure KB (w:aM) (F:Nat->Prop) (b:Nat) (n:Int) (E:List (Int×Int)) (A:Option bU) (c:Nat):Prop where
 blk:w.heap[b]?=ab (bc #[J R n,ad A E.length c] 169 (0,0))
 nU:jy w A E
 cap:E.length<=c
 YE:c<=dN
 xM:F b
 OA:∀blk off,A=ab ⟨blk,off,af⟩->F blk
 lt:∀blk off,A=ab ⟨blk,off,af⟩->blk<w.heap.size
def lI(w:aM)(F:Nat->Prop)(b:Nat)(n:Int)(E:List (Int×Int)):Prop:=∃A c,KB w F b n E A c
def KB.only(h:KB w F b n E A c)(k:ar G w w')(a:∀i,F i->¬G i):KB w' F b n E A c:=
 {h with
  blk:=k.heap h.blk (a _ h.xM)
  nU:=h.nU.only k (λblk off e=>a _ (h.OA blk off e))
  lt:=λblk off e=>vl (h.lt blk off e) k.size}
def lI.only(h:lI w F b n E)(k:ar G w w')(a:∀i,F i->¬G i):lI w' F b n E:=by obtain⟨A,c,h⟩:=h;exact⟨A,c,h.only k a⟩
def lI.aH(h:lI w F b n E)(k:aq w w'):lI w' F b n E:=h.only k (λ_ _ a=>a)
theorem lI.mono(h:lI w F b n E)(a:∀i,i<w.heap.size->F i->G i):lI w G b n E:=by obtain⟨A,c,h⟩:=h;exact⟨A,c,{h with xM:=a _ (pj.1 h.blk).1 h.xM,OA:=λblk off e=>a _ (h.lt _ _ e) (h.OA _ _ e)}⟩
def anP:ax.underlying 174=ab (.struct (ax.fieldsOf 174)):=aw
def avn:ax.stoodInHeld 174=false:=aw
def anr(dc bm a bp)w:(binOp .eql 174 (av #[J R dc,J R bm]) (av #[J R a,J R bp])).run ax w=a7 (ak (dc==a&&bm==bp)) w:=by have f:=Tryz.underlying3;have e:=Tryz.isAgg3;have g:=Tryz.sizeOf3;have c:=anP;have d:=avn;rw[run_eql_struct,show(10000:Nat)=9999+1 from aa,run_equalIn_agg w _ _ _ _ c d];simp only[Program.fieldsOf,underlying174];go_simp;by_cases h1:dc=a<;>by_cases b:bm=bp<;>simp[h1,b]
def aol:ax.eqGuardType ax.depth 174=false:=aw
set_option maxHeartbeats 400000 in
def at3 b n E F(a bp)w(C:lI w F b n E):
 aD ax 245 #[ay (ab ⟨b,0,af⟩),av #[J R a,J R bp]] w λe w'=>e=aA (ak (decide ((a,bp)∈E)))/\aq w w':=by
 obtain⟨A,c,g⟩:=C;have hmx:=g.cap;have D:=g.YE;unfold dN at D;have H:=anr;have hgd:=aol;have hbl:=(pj.1 g.blk).1;have t:=g.only (ar.alloc (F:=λ_=>False) w (bc #[J R a,J R bp] 174)) (λ_ _ h=>h);have q:=eB _ _ 1 _ _ _ t.blk;simp at q;go_enter func245,ntmps245;go_wp2;go_loopw [5] (λi wr=>∃k:Nat,k<=E.length/\i=J R k/\(a,bp)∉E.take k/\aq w wr/\wr.heap[w.heap.size]?=ab (bc #[J R a,J R bp] 174 (0,0))) (λi _=>E.length -(cd i).toNat);case atStart=>grind[ar.alloc,fe]
 case round=>
  obtain⟨k,hk,rfl,hno,l,d⟩:=hrel;have j:=g.only l (λ_ _ h=>h);have q:=eB _ _ 1 _ _ _ j.blk;have bZ:=eB _ _ 0 _ _ _ d;have c1:=eB _ _ 1 _ _ _ d;simp at q bZ c1;have G:=j.nU;have v:=hid d;clear g t d;have r:=hid hno;have f:=hid l;clear hno l;by_cases hlt:k<E.length
  .obtain⟨fT,off,rfl,hcell⟩:=G ae;obtain⟨h1,B⟩:=hcell k hlt;obtain⟨⟨u,x⟩,m⟩:∃p,E[k]?=ab p:=⟨E[k],aT⟩;simp only[m,pG]at h1 B;have s:=hid m;clear hcell m j;have hb0:(k:Int)<(E.length:Int):=ae;by_cases o:u=a/\x=bp;·obtain⟨rfl,rfl⟩:=o;have bB:(u==u)=true:=aT;have b7:(x==x)=true:=aT;have y:aE (decide _=aB):=hid (by simpa using cL s.out);go_wp2_with fail;go_quiet (fail);go_wp2;go_ret;exact⟨by rw[y];rfl,f.out.trans (ar.drewN _ _)⟩
   .have bB:(u==a&&x==bp)=false:=aF;have z:=hid o;clear o;go_wp2_with fail;go_quiet (fail);go_wp2;go_roundw
    case rel=>
     refine⟨k+1,ae,by go_num,?_,f.out.trans (ar.drewN _ _),?_⟩;·rw[fu,s];simp only[yb,jf,vi,not_or,oh];exact⟨r,λh=>z ⟨h.1.symm,h.2.symm⟩⟩
     .exact v
    case measure=>grind[cd]
  .obtain rfl:k=E.length:=ae;go_wp2;go_ret;exact⟨by have:=r.out;rw[ik]at this;simp[this],f⟩
set_option maxHeartbeats 400000 in
def aqg A c xs x w(hx:cX w A xs)(h1:xs.length<=9223372036854775807):
 aD ax 167 #[J R x,ad A xs.length c] w λe w'=>e=aA (ak (decide (x∈xs)))/\w=w':=by
 go_enter func167,ntmps167;go_wp2;go_loop [5] (λi=>∃k:Nat,k<=xs.length/\i=J R k/\aE (x∉xs.take k)) (λi=>xs.length -(cd i).toNat);case atStart=>grind[hid]
 case round=>
  obtain⟨k,hk,rfl,h⟩:=hrel;by_cases hlt:k<xs.length
  .obtain⟨b,off,rfl,hc⟩:=hx ae;have l:=hc k hlt;obtain⟨y,f⟩:∃y,xs[k]?=ab y:=⟨xs[k],aT⟩;simp only[f,pG]at l;have g:=hid f;clear hc hx f;have hb0:(k:Int)<(xs.length:Int):=ae;by_cases d:y=x;·subst d;have bB:(y==y)=true:=aT;have a:aE (decide _=aB):=hid (by simpa using cL g.out);go_wp2;go_ret;exact⟨by rw[a];rfl,aa⟩
   .have hne:(y==x)=false:=aF;have j:=hid d;clear d;go_wp2;go_round
    case rel=>
     refine⟨k+1,ae,by go_num,hid ?_⟩;have m:xs.take (k+1)=xs.take k++[y]:=by rw[fu,g];rfl
     rw[m];simp;exact⟨h,λe=>j e.symm⟩
    case measure=>grind[cd]
  .obtain rfl:k=xs.length:=ae;have a:aE (decide _=au):=hid (by have:=h.out;rw[ik]at this;simpa using this);clear hx;go_wp2;go_ret;exact⟨by rw[a];rfl,aa⟩
def ab2 A c xs x w r(h:decide (x∈xs)=r)(hx:cX w A xs)(h1:xs.length<=9223372036854775807):
 aD ax 167 #[J R x,ad A xs.length c] w λe w'=>e=aA (ak r)/\w=w':=h▸aqg A c xs x w hx h1
set_option maxHeartbeats 400000 in
def aqh A c xs x w(hx:cX w A xs)(h1:xs.length<=9223372036854775807):
 aD ax 81 #[J R x,ad A xs.length c] w λe w'=>e=aA (ak (decide (x∈xs)))/\w=w':=by
 go_enter func81,ntmps81;go_wp2;go_loop [5] (λi=>∃k:Nat,k<=xs.length/\i=J R k/\aE (x∉xs.take k)) (λi=>xs.length -(cd i).toNat);case atStart=>grind[hid]
 case round=>
  obtain⟨k,hk,rfl,h⟩:=hrel;by_cases hlt:k<xs.length
  .obtain⟨b,off,rfl,hc⟩:=hx ae;have l:=hc k hlt;obtain⟨y,f⟩:∃y,xs[k]?=ab y:=⟨xs[k],aT⟩;simp only[f,pG]at l;have g:=hid f;clear hc hx f;have hb0:(k:Int)<(xs.length:Int):=ae;by_cases d:y=x;·subst d;have bB:(y==y)=true:=aT;have a:aE (decide _=aB):=hid (by simpa using cL g.out);go_wp2;go_ret;exact⟨by rw[a];rfl,aa⟩
   .have hne:(y==x)=false:=aF;have j:=hid d;clear d;go_wp2;go_round
    case rel=>
     refine⟨k+1,ae,by go_num,hid ?_⟩;have m:xs.take (k+1)=xs.take k++[y]:=by rw[fu,g];rfl
     rw[m];simp;exact⟨h,λe=>j e.symm⟩
    case measure=>grind[cd]
  .obtain rfl:k=xs.length:=ae;have a:aE (decide _=au):=hid (by have:=h.out;rw[ik]at this;simpa using this);clear hx;go_wp2;go_ret;exact⟨by rw[a];rfl,aa⟩
def Mi A c xs x w r(h:decide (x∈xs)=r)(hx:cX w A xs)(h1:xs.length<=9223372036854775807):
 aD ax 81 #[J R x,ad A xs.length c] w λe w'=>e=aA (ak r)/\w=w':=h▸aqh A c xs x w hx h1
def adu{F w w'}{base e size:Nat}{v m xs}(h:w.ownsRow base e size v m xs)(k:ar F w w')(a:∀i,base<=i->¬F i):w'.ownsRow base e size v m xs:=by
 refine⟨h.1,?_⟩;rcases h.2 with h2|⟨g,cap,cur,rfl,hb,hh,r⟩;·grind
 .exact b1 ⟨g,_,_,aa,hb,k.heap hh (a _ hb),r⟩
def aef b n E F(a bp)w r(h:decide ((a,bp)∈E)=r)(c:lI w F b n E):
 aD ax 245 #[ay (ab ⟨b,0,af⟩),av #[J R a,J R bp]] w λe w'=>e=aA (ak r)/\aq w w':=h▸at3 b n E F a bp w c
def at5(b N:Nat)v E F w(s:lI w F b N E)(S:N<=1048576):
 aD ax 168 #[ay (ab ⟨b,0,af⟩),J R v] w λe w'=>∃r,e=aA r/\pF w w' r ((dt N).filter (λx=>decide ((x,v)∈E)))/\aq w w':=by
 obtain⟨G,z,hz1,hz2,hz3⟩:=rf An;have j:=hid (And.intro z (And.intro hz1 (And.intro hz2 hz3)));clear z hz1 hz2 hz3;have B:=hid s;clear s;go_enter func168,ntmps168;go_wp2
 go_loopw [5,6] (λI i wr=>∃k:Nat,k<=N/\i=J R k/\wr.ownsRow w.heap.size 3 1 I (((dt N).take k).filter (λx=>decide ((x,v)∈E))).length ((((dt N).take k).filter (λx=>decide ((x,v)∈E))).map (J R))/\
  (((dt N).take k).filter (λx=>decide ((x,v)∈E))).length<=k/\ar (λi=>w.heap.size<=i) w wr) (λ_ i _=>N -(cd i).toNat);case atStart=>exact⟨0,ae,aa,⟨aT,bH ⟨aa,aT⟩⟩,aT,ar.refl _ _⟩
 case round=>
  obtain⟨k,hk,rfl,hrow,hlen,a⟩:=hrel;have m:=B.out.aH (b3.aH a)
  have U:wr.cell? ⟨b,0,af⟩=ab (J R N):=by obtain⟨K,P,g⟩:=m;exact eB _ _ 0 _ _ _ g.blk
  have o:=hid m;have T:=a.size;clear m;by_cases hlt:k<N
  .have A:=Nw N k hlt;have hb0:(k:Int)<(N:Int):=ae;obtain⟨r,hr⟩:∃r,decide (((k:Int),v)∈E)=r:=⟨_,aa⟩;have d:=hid hr;have q:=hid A;have l:=hid hrow;have p:=hid a;have M:=hid hlen;clear A hrow a hlen hr;generalize t:((dt N).take k).filter (λx=>decide ((x,v)∈E))=L at*;cases r
   .go_wp2_with (go_at_call 245;refine(aef b N E _ k v wr _ d o).mono ?_;rintro e n ⟨rfl,hg2⟩);have c:=hid hg2;clear hg2;go_roundw
    case rel=>
     have y:((dt N).take (k+1)).filter (λx=>decide ((x,v)∈E))=L:=by rw[q,pC,t];simpa using d.out
     exact⟨k+1,ae,by go_num,y▸ns l.out c.out (λ_ _ h=>h),aF,p.out.trans c.out (λ_ _ h=>h.elim)⟩
    case measure=>grind[cd]
   .go_wp2_with (first
     |(go_at_call 245;refine(aef b N E _ k v wr _ d o).mono ?_;rintro e n ⟨rfl,hg2⟩;have c:=hid hg2;have hs2:=hg2.size;clear hg2)
     |(at_builtin;go_loud (refine wpList_append_own _ aa (bb 20) (bb 22) 82 aa w.heap.size 3 G _ 1 8 ij j.out.1 j.out.2.1 j.out.2.2.1 j.out.2.2.2 aa ae _ L.length (L.map (J R)) aa (ns l.out (aq.trans c.out (ar.alloc (F:=λ_=>False) _ _)) (λ_ _ h=>h)) _ 1 1 [J R k] aa aa (Fa _ _ _) (by simp[wB]) (by grind[dN]) aF (by simp;omega) ?_;intro V H hown2 hgrow2 _)))
    have hk2:ar (λi=>w.heap.size<=i) (n.alloc (bc _ 3)) H:=ar.of_grownBy hgrow2 (λi e=>bH (by
     rcases l.out.2 with⟨rfl,_⟩|⟨Q,cap,cur,rfl,D,_⟩;·replace e:Value.ownBlock (ad _ 0 0)=ab i:=e;cases e
     .cases e;exact D));have u:=(p.out.trans c (λ_ _ h=>h.elim)).trans ((ar.alloc (F:=λi=>w.heap.size<=i) n _).trans hk2 (λ_ _ h=>h)) (λ_ _ h=>h);have f:=hid (And.intro hown2 u);clear hown2 hgrow2 hk2 u;go_wp2;go_roundw
    case rel=>
     obtain⟨O,C⟩:=f.out
     have y:((dt N).take (k+1)).filter (λx=>decide ((x,v)∈E))=L++[(k:Int)]:=by rw[q,pC,t];simpa using d.out
     refine⟨k+1,ae,by go_num,?_,?_,C⟩;·grind
     .grind
    case measure=>grind[cd]
  .obtain rfl:k=N:=ae;have f:=hid (And.intro hrow a);clear hrow a hlen;go_wp2;go_ret;have h1:=f.1;rw[List.take_of_length_le (by simp[dt])]at h1;exact⟨_,aa,h1,b3.aH f.2⟩
def at6(b N:Nat)v E F w(a:lI w F b N E)(d:N<=1048576)xs(hx:xs=(dt N).filter (λx=>decide ((x,v)∈E))):
 aD ax 168 #[ay (ab ⟨b,0,af⟩),J R v] w λe w'=>∃A c,e=aA (ad A xs.length c)/\cX w' A xs/\aq w w':=by
 subst hx;refine(at5 b N v E F w a d).mono ?_;rintro e w' ⟨r,rfl,g,f⟩;obtain⟨A,c,rfl,hi,_⟩:=g.form;exact⟨A,c,aa,hi,f⟩
def aqp:(ax.info? 174).map (λi=>(i.zero,i.size,i.bytes))=ab (ab (av #[J R 0,J R 0]),2,16):=aw
theorem lI.lW{w b base n v E}(hb:w.heap[b]?=ab (bc #[J R n,v] 169 (0,0)))(hown:w.ownsRow base 174 2 v E.length (il E))F(a:F b)(f:∀i,base<=i->F i):
 lI w F b n E:=by
 rcases hown.2 with⟨rfl,c⟩|⟨g,cap,cur,rfl,j,hh,d,hcm,_⟩;·obtain rfl:=jH c;exact⟨_,0,hb,jy.nil,cm _,ae,a,(λ_ _ h=>aF),(λ_ _ h=>aF)⟩
 .exact⟨_,_,hb,jy.lW hown,d,hcm,a,(λblk off e=>aF),(λblk off e=>aF)⟩
set_option maxHeartbeats 4000000 in
def auC(b N:Nat)E F A c l w(dT:lI w F b N E)(hl:cX w A l)(hlen:l.length<=9223372036854775807)(eU:E.length<=1048576):
 aD ax 80 #[ay (ab ⟨b,0,af⟩),ad A l.length c] w λe w'=>∃iD,e=aA (ay (ab ⟨iD,0,af⟩))/\lI w' (λi=>w.heap.size<=i/\i<w'.heap.size) iD N (cut E l)/\aq w w':=by
 obtain⟨az,aC,g⟩:=dT;have HC:=g.cap;have aoW:=g.YE;unfold dN at aoW;have hbl:=(pj.1 g.blk).1;have kn:=eB _ _ 0 _ _ _ g.blk;simp at kn;have Q:=hid (And.intro g hl);clear g hl;go_enter func80,ntmps80;go_wp2
 go_loopw [6] (λi wr=>∃(k:Nat) (s:aO),i=J R k/\k<=E.length/\wr.heap[w.heap.size]?=ab (bc #[J R N,s] 169 (0,0))/\
  wr.ownsRow (w.heap.size+1) 174 2 s (cut (E.take k) l).length (il (cut (E.take k) l))/\ar (λi=>w.heap.size<=i) w wr) (λi _=>E.length -(cd i).toNat);case atStart=>exact⟨0,_,aa,cQ _,fe w _,⟨aS,bH ⟨aa,aS⟩⟩,ar.alloc _ _⟩
 case round=>
  obtain⟨k,s,rfl,hk,U,hrow,H⟩:=hrel;have O:=Q.1.only (b3.aH H) (λ_ _ h=>h);have HU:=Q.2.aH (b3.aH H);have X:=eB _ _ 1 _ _ _ O.blk;simp at X;have Eo:=H.size;have e5:=O.nU;have LD:=(pj.1 U).1;have fC:=Rg (E.take k) l;have jK:(E.take k).length<=k:=aF;have S:=hid (And.intro O HU);have d:=hid (And.intro U (And.intro hrow H));clear O HU U hrow H;by_cases hlt:k<E.length
  .obtain⟨fT,off,rfl,hcell⟩:=e5 ae;obtain⟨h1,z⟩:=hcell k hlt;obtain⟨⟨u,x⟩,W⟩:∃p,E[k]?=ab p:=⟨E[k],aT⟩;simp only[W,pG]at h1 z;have Ih:=ami E l W;have x3:=hid Ih;have hb0:(k:Int)<(E.length:Int):=ae;clear hcell W Ih;generalize aou:cut (E.take k) l=f at*;clear aou;obtain⟨Y,hr1⟩:∃r,decide (u∈l)=r:=⟨_,aa⟩;obtain⟨Z,hr2⟩:∃r,decide (x∈l)=r:=⟨_,aa⟩;have y:=hid (And.intro hr1 hr2);clear hr1 hr2;have I:=hid (ab2 A c l u wr Y y.1 S.2 hlen);have P:=hid (ab2 A c l x wr Z y.2 S.2 hlen);by_cases hr:Y=au/\Z=au
   .obtain⟨rfl,rfl⟩:=hr;have M:aE (cut _ l=f++[(u,x)]):=hid (by rw[x3,if_pos ⟨by simpa using y.out.1,by simpa using y.out.2⟩]);obtain⟨i0,gO,hz0,hz1,hz2⟩:=rf aqp;have L:=hid (And.intro gO (And.intro hz0 (And.intro hz1 hz2)));clear gO hz0 hz1 hz2;have qO:=eB _ _ 1 _ _ _ d.1;simp at qO;have ay4:=hbl;have ay3:=S.1.lt fT _ aa
    have ay2:=by have:=Q.1.lt fT _ aa;exact this
    have D:aE (∀w',ar (λi=>w.heap.size+1<=i) wr w'->w'.cell? ⟨w.heap.size,1,af⟩=ab s/\w'.cell? ⟨b,1,af⟩=ab _/\w'.cell? ⟨fT,off+k*2,af⟩=ab (J R u)/\w'.cell? ⟨fT,off+k*2+1,af⟩=ab (J R x)):=
     hid λw' hw'=>⟨hw'.cell qO aT,hw'.cell X aF,hw'.cell h1 aF,hw'.cell z aF⟩
    have jw:aE (∀w',ar (λi=>w.heap.size+1<=i) wr w'->w'.heap[w.heap.size]?=ab _/\w'.cell? ⟨w.heap.size,1,af⟩=ab s/\w'.frozen? ⟨w.heap.size,1,af⟩=au):=hid λw' hw'=>by have:=hw'.heap d.1 ae;exact⟨this,by simpa using eB _ _ 1 _ _ _ this,by grind[World.frozen?]⟩
    clear qO;have c1:=I.out;go_wp2_with (go_at_call 167;first|((with_reducible refine I.out.mono ?_);rintro e w' ⟨rfl,rfl⟩)|((with_reducible refine P.out.mono ?_);rintro e w' ⟨rfl,rfl⟩));clear c1;clear kn X h1 z;refine afN aw 16 (λw'=>w'.cell? _=ab s/\w'.cell? _=ab _/\w'.cell? _=ab _/\w'.cell? _=ab _) (D _ (ar.drew _)) (λhHeld=>?_);refine nu (i:=0) (v:=?_) aa aw aw aw aw (λ_ _ _ h=>h) (bH ⟨aS,?_⟩) hHeld ?_;rotate_left;focus (intro j hz;obtain⟨m,n,o,q⟩:=hz;go_simp;try with_reducible rfl)
    refine nu (i:=1) (v:=?_) aa aw aw aw aw (λ_ _ _ h=>h) (bH ⟨aS,?_⟩) hHeld ?_;rotate_left;focus (intro j hz;obtain⟨m,n,o,q⟩:=hz;go_simp;try with_reducible rfl)
    refine nu (i:=2) (v:=?_) aa aw aw aw aw (λ_ _ _ h=>h) (bH ⟨aS,?_⟩) hHeld ?_;rotate_left;focus (intro j hz;obtain⟨m,n,o,q⟩:=hz;go_simp;try with_reducible rfl)
    refine nu (i:=3) (v:=?_) aa aw aw aw aw (λ_ _ _ h=>h) (bH ⟨aS,?_⟩) hHeld ?_;rotate_left;focus (intro j hz;obtain⟨m,n,o,q⟩:=hz;go_simp;try with_reducible rfl)
    refine nu (i:=4) (v:=?_) aa aw aw aw aw (λ_ _ _ h=>h) (bH ⟨aS,?_⟩) hHeld ?_;rotate_left;focus (intro j hz;obtain⟨m,n,o,q⟩:=hz;go_simp;try with_reducible rfl)
    refine nu (i:=5) (v:=?_) aa aw aw aw aw (λ_ _ _ h=>h) (bH ⟨aS,?_⟩) hHeld ?_;rotate_left;focus (intro j hz;obtain⟨m,n,o,q⟩:=hz;go_simp;try with_reducible rfl)
    refine nu (i:=6) (v:=?_) aa aw aw aw aw (λ_ _ _ h=>h) (bH ⟨aS,?_⟩) hHeld ?_;rotate_left;focus (intro j hz;obtain⟨m,n,o,q⟩:=hz;go_simp;try with_reducible rfl)
    refine nu (i:=7) (v:=?_) aa aw aw aw aw (λ_ _ _ h=>h) (bH ⟨aS,?_⟩) hHeld ?_;rotate_left;focus (intro j hz;obtain⟨m,n,o,q⟩:=hz;go_simp;try with_reducible rfl)
    refine nu (i:=8) (v:=?_) aa aw aw aw aw (λ_ _ _ h=>h) (bH ⟨aS,?_⟩) hHeld ?_;rotate_left;focus (intro j hz;obtain⟨m,n,o,q⟩:=hz;go_simp;try with_reducible rfl)
    refine nu (i:=9) (v:=?_) aa aw aw aw aw (λ_ _ _ h=>h) (bH ⟨aS,?_⟩) hHeld ?_;rotate_left;focus (intro j hz;obtain⟨m,n,o,q⟩:=hz;go_simp;try with_reducible rfl)
    refine nu (i:=10) (v:=?_) aa aw aw aw aw (λ_ _ _ h=>h) (bH ⟨aS,?_⟩) hHeld ?_;rotate_left;focus (intro j hz;obtain⟨m,n,o,q⟩:=hz;go_simp;try with_reducible rfl)
    refine nu (i:=11) (v:=?_) aa aw aw aw aw (λ_ _ _ h=>h) (bH ⟨aS,?_⟩) hHeld ?_;rotate_left;focus (intro j hz;obtain⟨m,n,o,q⟩:=hz;go_simp;try with_reducible rfl)
    clear hHeld;refine xE (rs:=[12]) aw aT ?_;refine ky.cons aa aS (λK a=>?_) ?_;rotate_left;exact ky.nil;go_simp;refine a _ _ (λ_=>D _ (ar.trans (ar.alloc _ _) (ar.drew _) (λ_ _ h=>h))) ?_;clear a K;refine xE (rs:=[13]) aw aT ?_;refine ky.cons aa aS (λK a=>?_) ?_;rotate_left;exact ky.nil;refine awo _ (bb 50) (bb 58) 98 aS (w.heap.size+1) 174 i0 _ 2 16 underlying98 L.out.1 L.out.2.1 L.out.2.2.1 L.out.2.2.2 aa ae s f.length (il f) aa (adu d.out.2.1 (aq.trans (ar.alloc _ _) (ar.drew _)) (λ_ _ h=>h)) _ 1 1 (il [(u,x)]) aa ⟨rfl,λ_=>⟨_,aa,World.news_of_block (cs:=_) (t:=174) (fr:=(0,0)) (fe _ _)⟩⟩ (asc _) ae (by unfold dN;omega) ae (by simp;omega) ?_;intro g2 G B hown2 hgrow2 aoT Sm
    have C:aE (ar (λi=>w.heap.size+1<=i) wr B):=hid ((ar.trans (ar.alloc _ _) (ar.drew _) (λ_ _ h=>h)).trans (ar.of_grownBy (F:=λi=>w.heap.size+1<=i) hgrow2 (λi e=>bH (by
     rcases d.out.2.1.2 with⟨rfl,_⟩|⟨rO,cap,cur,rfl,V,_⟩;·replace e:=e;cases e
     .cases e;exact V))) (λ_ _ h=>h));have ajd:=hid hown2
    have hg2:w.heap.size+1<=g2:=by
     rcases hown2.2 with⟨hh,_⟩|⟨rO,cap,cur,hh,V,_⟩;·omega
     .cases hh;exact V
    clear hown2 hgrow2 aoT;refine a _ _ (λ_=>D _ C) ?_;clear a K;refine xE (rs:=[14]) aw aT ?_;refine ky.cons aa aS (λK a=>?_) ?_;rotate_left;exact ky.nil;go_simp;refine a _ _ (λ_=>D _ C) ?_;clear a K;refine xE (rs:=[15]) aw aT ?_;refine ky.cons aa aS (λK a=>?_) ?_;rotate_left;exact ky.nil;go_simp;refine a _ _ (λ_=>D _ C) ?_;clear a K;refine xE (rs:=[16]) aw aT ?_;refine ky.cons aa aS (λK a=>?_) ?_;rotate_left;exact ky.nil;obtain⟨lB,Au,n4⟩:=jw.out B C.out;have rz:=hid lB;clear lB;go_simp;refine a _ _ (λh=>absurd aa h) ?_;clear a K;refine afG aw ?_ _;have T:aE ((B.setCell ⟨w.heap.size,1,af⟩ (ad (ab ⟨g2,0,af⟩) (f.length+1) G)).heap[w.heap.size]?=ab (bc #[J R N,ad (ab ⟨g2,0,af⟩) (f.length+1) G] 169 (0,0))/\(B.setCell ⟨w.heap.size,1,af⟩ (ad (ab ⟨g2,0,af⟩) (f.length+1) G)).ownsRow (w.heap.size+1) 174 2 (ad (ab ⟨g2,0,af⟩) (f.length+1) G) (f.length+1) (il f++il [(u,x)])/\ar (λi=>w.heap.size<=i) wr (B.setCell ⟨w.heap.size,1,af⟩ (ad (ab ⟨g2,0,af⟩) (f.length+1) G))):=hid ⟨by simp[World.setCell,Array.getElem?_modify,rz.out],adu ajd.out (ar.setCell (F:=λi=>i=w.heap.size) B (p:=⟨w.heap.size,1,af⟩) aa _) (λi hi=>ae),(C.out.mono (λi _ hi=>ae)).trans (ar.setCell (F:=λi=>w.heap.size<=i) _ (p:=⟨w.heap.size,1,af⟩) (cm _) _) (λ_ _ h=>h)⟩;clear Au n4;go_wp2;go_roundw
    case rel=>
     refine⟨k+1,_,by go_num,ae,T.1,?_,d.2.2.trans T.2.2 (λ_ _ h=>h)⟩;rw[M];simpa [il]using T.out.2.1
    case measure=>grind[cd]
   .have M:aE (cut _ l=f):=hid (by rw[x3,if_neg,List.append_nil];rintro⟨gn,a2⟩;exact hr ⟨by rw[<-y.1];simpa using gn,by rw[<-y.2];simpa using a2⟩);have Kg:=hid hr;clear hr;cases Y
    .cases Z;·exact absurd ⟨aa,aa⟩ Kg
     .go_wp2_with (go_at_call 167;first|((with_reducible refine I.out.mono ?_);rintro e w' ⟨rfl,rfl⟩)|((with_reducible refine P.out.mono ?_);rintro e w' ⟨rfl,rfl⟩));go_roundw;case rel=>exact⟨k+1,s,by go_num,ae,d.1,by rw[M];exact d.2.1,d.2.2⟩
      case measure=>grind[cd]
    .go_wp2_with (go_at_call 167;first|((with_reducible refine I.out.mono ?_);rintro e w' ⟨rfl,rfl⟩)|((with_reducible refine P.out.mono ?_);rintro e w' ⟨rfl,rfl⟩));go_roundw;case rel=>exact⟨k+1,s,by go_num,ae,d.1,by rw[M];exact d.2.1,d.2.2⟩
     case measure=>grind[cd]
  .obtain rfl:k=E.length:=ae;clear e5;go_wp2;go_ret;obtain⟨h1,z,h3⟩:=d.out;rw[ik]at z;exact⟨_,aa,(lI.lW h1 z (λi=>w.heap.size<=i) (cm _) (λi hi=>ae)).mono (λi hi ue=>⟨ue,hi⟩),b3.aH h3⟩
def an4 (b N:Nat) E F v A c o w (s:lI w F b N E) (D:N<=1048576) (y:cX w A o) (z:o.length<=9223372036854775807)
 r (hr:((dt N).filter (λx=>decide ((x,v)∈E))).all (λu=>decide (u∈o))=r):
 aD ax 82 #[ay (ab ⟨b,0,af⟩),J R v,ad A o.length c] w λe w'=>e=aA (ak r)/\aq w w':=by
 have f:=hid (And.intro s (And.intro y hr));clear s y hr;go_enter func82,ntmps82;have C:((dt N).filter (λx=>decide ((x,v)∈E))).length<=N:=eC (List.length_filter_le _ _) (by simp[dt]);obtain⟨L,h⟩:=ex ((dt N).filter (λx=>decide ((x,v)∈E)));go_wp2_with fail;go_at_call 168;refine(at6 b N v E F w f.1 D L h.symm).mono ?_;rintro e w1 ⟨H,c1,rfl,t,hg1⟩;rw[h]at C;have n:=hid (h▸f.2.2);have a:=hid (And.intro t hg1);clear t hg1 h;go_wp2_with fail;go_loopw [8] (λi wr=>∃k:Nat,k<=L.length/\i=J R k/\aE ((L.take k).all (λu=>decide (u∈o))=aB)/\aq w1 wr) (λi _=>L.length -(cd i).toNat);case atStart=>grind[hid,ar.refl]
 case round=>
  obtain⟨k,hk,rfl,hall,l⟩:=hrel;have d:=hid l;have m:=a.1.aH l;clear l;by_cases hlt:k<L.length
  .obtain⟨fT,off,rfl,hcell⟩:=m ae;have h1:=hcell k hlt;obtain⟨x,hx⟩:∃x,L[k]?=ab x:=⟨_,cj hlt⟩;simp only[hx,pG]at h1;have p:=hid hx;have hb0:(k:Int)<(L.length:Int):=ae;clear hcell m hx;obtain⟨q,B⟩:∃q,decide (x∈o)=q:=⟨_,aa⟩;have g:=hid B;clear B;cases q
   .have j:aE (r=au):=hid (by rw[<-n,List.all_eq_false];exact⟨x,cL p,by rw[g];simp⟩);go_wp2_with (go_at_call 81;refine(Mi A c o x wr _ g ((f.2.1.aH a.2).aH d) z).mono ?_;rintro e G ⟨rfl,rfl⟩);go_ret;exact⟨by rw[j];rfl,aq.trans a.2 d⟩
   .go_wp2_with (go_at_call 81;refine(Mi A c o x wr _ g ((f.2.1.aH a.2).aH d) z).mono ?_;rintro e G ⟨rfl,rfl⟩);go_roundw
    case rel=>
     refine⟨k+1,ae,by go_num,hid ?_,d⟩;rw[fu,p];simp only[yb,List.all_append,hall.out,List.all_cons,g.out,List.all_nil,Bool.and_self]
    case measure=>grind[cd]
  .obtain rfl:k=L.length:=ae
   have j:aE (r=aB):=hid (by rw[<-n];have:=hall.out;rwa [ik]at this);clear m;go_wp2;go_ret;exact⟨by rw[j];rfl,aq.trans a.2 d⟩
def vR(s out:List Int)(x:Int):Bool:=!decide (x∈s)&&!decide (x∈out)
def Rz(E:List (Int×Int))(N:Nat)(s out:List Int)(x:Int):Bool:=((dt N).filter (λu=>decide ((u,x)∈cut E s))).all (λu=>decide (u∈out))
def xw(E:List (Int×Int))(N:Nat)(s out:List Int)(x:Int):Bool:=vR s out x&&Rz E N s out x
def TY{E}{N:Nat}{s out x}(a:Valid N E)(hx:0<=x/\x<(N:Int)):xw E N s out x=aB↔vn E N s out x:=by grind[xw,vR,Rz,vn,sX,qN]
def anW{E}{N:Nat}{s out x}(b:Valid N E)(h:(dt N).find? (xw E N s out)=ab x):Kp E N s out x:=by
 obtain⟨h1,j,iK,d,g⟩:=List.find?_eq_some_iff_append.1 h;have f:x∈dt N:=aF;refine⟨(TY b (qN.1 f)).1 h1,λu a=>?_⟩;have c:=qN.2 a.1;have i:=(TY b a.1).2 a;rw[d]at c;rcases jf.1 c with e|e;·grind
 .grind[CX,List.pairwise_cons]
def anX{E}{N:Nat}{s out}(a:Valid N E)(h:(dt N).find? (xw E N s out)=af)v:¬vn E N s out v:=λhv=>by have:=List.find?_eq_none.1 h v (qN.2 hv.1);exact this ((TY a hv.1).2 hv)
def aku{N s out}:(dt N).any (vR s out)=!decide (kp N s out=[]):=by
 by_cases h:kp N s out=[];·simp only[h,decide_true,Bool.not_true,List.any_eq_false];intro x hx;have:x∉kp N s out:=aF;grind[Cw,qN,vR]
 .simp only[h,decide_false,Bool.not_false,List.any_eq_true];obtain⟨x,hx⟩:=List.exists_mem_of_ne_nil _ h;have a:=Cw.1 hx;exact⟨x,qN.2 a.1,by grind[vR]⟩
set_option maxHeartbeats 2000000 in
def at8 (b N:Nat) E F A c s w (dT:lI w F b N E) (hs:cX w A s) (e5:s.length<=9223372036854775807) (eU:E.length<=1048576) (fk:N<=1048576) (dx:Valid N E)
 o (ho:mx E N s o) r (hr:decide (kp N s o=[])=r):
 aD ax 30 #[ay (ab ⟨b,0,af⟩),ad A s.length c] w λe w'=>∃K aC,e=aA (bg #[ad K (CE r o).length aC,ak r])/\cX w' K (CE r o)/\aq w w':=by
 have l:=hid (And.intro dT (And.intro hs (And.intro dx (And.intro ho hr))));obtain⟨i0,gO,hz0,hz1,hz2⟩:=rf An;have G:=hid (And.intro gO (And.intro hz0 (And.intro hz1 hz2)));clear dT hs dx ho hr gO hz0 hz1 hz2;go_enter func30,ntmps30;go_wp2_with fail;go_at_call 80;refine(auC b N E F A c s w l.out.1 l.out.2.1 e5 eU).mono ?_;rintro e w1 ⟨Z,rfl,Z2,hg1⟩;have B:=hid (And.intro Z2 hg1);have hs1:=hg1.size;clear Z2 hg1;go_wp2_with fail;go_loopw [7] (λU wr=>∃(out:List Int),kl E N s out/\wr.ownsRow w1.heap.size 3 1 U out.length (out.map (J R))/\ar (λi=>w1.heap.size<=i) w1 wr) (λU _=>N -lenOf U);case atStart=>exact⟨[],.nil,⟨aT,bH ⟨aa,aT⟩⟩,ar.refl _ _⟩
 case round=>
  obtain⟨out,P,hrow,n⟩:=hrel;have hM:=P.length;have Eo:=n.size;obtain⟨z,H,rfl,HN⟩:=yZ hrow;have Q:=B.out.1.aH (b3.aH n)
  have kn:wr.cell? ⟨Z,0,af⟩=ab (J R N):=by obtain⟨K,aC,g⟩:=Q;exact eB _ _ 0 _ _ _ g.blk
  have d:=hid (And.intro P (And.intro hrow (And.intro HN (And.intro n Q))));clear P hrow HN n Q;go_wp2_with fail;obtain⟨y,rfl⟩:∃y:aM,y=wr:=⟨_,aa⟩;go_loopw [8,9,10] (λMI bS aV wr=>∃(k:Nat) (nx i:Int),k<=N/\aV=J R i/\aE (i=(k:Int) -1)/\MI=J R nx/\aE (nx=(((dt N).drop k).find? (xw E N s out)).getD (-1))/\bS=ak (((dt N).drop k).any (vR s out))/\aq y wr) (λ_ _ i _=>(cd i+1).toNat);case atStart=>exact⟨N,-1,_,cm _,aa,hid aa,aa,hid (by rw[GK (by simp[dt])];rfl),by rw[GK (by simp[dt])];rfl,ar.refl _ _⟩
  case round=>
   obtain⟨k,nx,i,hk,rfl,hi,rfl,u,rfl,n⟩:=hrel;have a:=hid n;clear n;cases k with
   |zero=>
    obtain rfl:i=-1:=by have:=hi.out;omega
    have I:=u.out;rw[List.drop_zero,aku]at*;cases hf:(dt N).find? (xw E N s out)with
    |none=>
     rw[hf]at I;obtain rfl:nx=-1:=I;have hI:mx E N s out:=⟨d.out.1,anX l.out.2.2.1 hf⟩;obtain rfl:=hI.unique l.out.2.2.2.1;rw[l.out.2.2.2.2];clear hI hf u hi kn;cases r;·go_wp2;go_ret2;exact⟨_,0,aa,cX.nil,aq.trans B.out.2 (aq.trans (b3.aH d.out.2.2.2.1) a.out)⟩
     .go_wp2;go_ret2;exact⟨z,H,aa,d.out.2.2.1.aH a.out,aq.trans B.out.2 (aq.trans (b3.aH d.out.2.2.2.1) a.out)⟩
    |some x=>
     rw[hf]at I;obtain rfl:nx=x:=I;have t:=anW l.out.2.2.1 hf;have hx0:=t.1.1
     have H':decide (kp N s out=[])=false:=by have:nx∈kp N s out:=Cw.2 ⟨hx0,t.1.2.1,t.1.2.2.1⟩;simp only[decide_eq_false_iff_not];intro he;rw[he]at this;cases this
     rw[H'];have hk2:=(kl.snoc d.out.1 t);have hl2:=hk2.length;rw[dv,wO]at hl2;have Gn:=hid hk2;have hd:decide (nx<0)=false:=by simp;omega
     clear hf t H' hk2 u hi kn;go_wp2_with (at_builtin;go_loud (refine wpList_append_own_at _ aa (bb 41) (bb 43) 82 aa w1.heap.size 3 i0 _ 1 8 ij G.out.1 G.out.2.1 G.out.2.2.1 G.out.2.2.2 aa ae _ out.length _ aa (ns d.out.2.1 (aq.trans a.out (ar.alloc (F:=λ_=>False) _ _)) (λ_ _ h=>h)) _ 1 1 _ aa aa (Fa _ _ _) (by simp[wB]) (by unfold dN;omega) ae (by have:=a.out.size;simp;omega) ?_;intro v2 V hown2 hgrow2 _ _));have fm:ar (λi=>w1.heap.size<=i) (wr.alloc (bc #[J R nx] 3)) V:=ar.of_grownBy hgrow2 (λi e=>bH (d.out.2.1.lt i e).1);have kH:ar (λi=>w1.heap.size<=i) w1 V:=((d.out.2.2.2.1.trans a.out (λ_ _ h=>h.elim)).trans (ar.alloc (F:=λi=>w1.heap.size<=i) _ _) (λ_ _ h=>h)).trans fm (λ_ _ h=>h);have hown:V.ownsRow w1.heap.size 3 1 v2 (out.length+1) ((out++[nx]).map (J R)):=by simpa using hown2
     obtain⟨aJ,c2,b7,_⟩:=yZ hown;obtain rfl:v2=ad aJ (out.length+1) c2:=by rw[b7];simp
     have Y:=hid (And.intro hown kH);clear hown2 hgrow2 fm kH hown b7;go_wp2;go_roundw;case rel=>exact⟨_,Gn.out,by simpa using Y.out.1,Y.out.2⟩
     case measure=>simp only[lenOf];omega
   |succ m=>
    obtain rfl:i=(m:Int):=by have:=hi.out;omega
    have hm:m<N:=ae;have hdr:=avZ hm;have hb0:(0:Int)<=(m:Int):=ae;obtain⟨f,hr1⟩:∃q:Bool,decide ((m:Int)∈s)=q:=⟨_,aa⟩;obtain⟨j,hr2⟩:∃q:Bool,decide ((m:Int)∈out)=q:=⟨_,aa⟩;obtain⟨v,hr3⟩:∃q:Bool,Rz E N s out (m:Int)=q:=⟨_,aa⟩;have T:vR s out (m:Int)=(!f&&!j):=by unfold vR;rw[hr1,hr2]
    have oE:xw E N s out (m:Int)=(!f&&!j&&v):=by unfold xw;rw[T,hr3]
    have C:aE (((dt N).drop m).any (vR s out)=((!f&&!j)||((dt N).drop (m+1)).any (vR s out))):=hid (by rw[hdr,List.any_cons,T]);have D:aE (((dt N).drop m).find? (xw E N s out)=if(!f&&!j&&v)=aB then ab (m:Int)else((dt N).drop (m+1)).find? (xw E N s out)):=hid (by rw[hdr,List.find?_cons,oE];cases(!f&&!j&&v)<;>rfl);have O:=hid (And.intro hr1 (And.intro hr2 hr3));have M:=hid u.out;clear hdr hr1 hr2 hr3 T oE hi u;generalize ((dt N).drop (m+1)).any (vR s out)=lb at*;have wa:aE (∀W,aq y W->aD ax 81 #[J R m,ad A s.length c] W λe w'=>e=aA (ak f)/\W=w'):=hid λW S=>Mi A c s m W f O.out.1 (((l.out.2.1.aH B.out.2).aH (b3.aH d.out.2.2.2.1)).aH S) e5;have xK:aE (∀W,aq y W->aD ax 81 #[J R m,ad z out.length H] W λe w'=>e=aA (ak j)/\W=w'):=hid λW S=>Mi z H out m W j O.out.2.1 (d.out.2.2.1.aH S) ae;have c1:=wa.out wr a.out;cases f
    .have X:=hid (xK.out wr a.out);cases j
     .go_wp2_with (go_at_call 81;with_reducible refine c1.mono ?_;clear c1;rintro e w' ⟨rfl,rfl⟩);have c2:=X.out;go_wp2_with (go_at_call 81;with_reducible refine c2.mono ?_;clear c2;rintro e w' ⟨rfl,rfl⟩);have gY:=an4 Z N (cut E s) _ m z H out wr (d.out.2.2.2.2.aH a.out) fk (d.out.2.2.1.aH a.out) ae v O.out.2.2;cases v
      .go_wp2_with (go_at_call 82;with_reducible refine gY.mono ?_;clear gY;rintro e cF ⟨rfl,p⟩);have L:=hid p;clear p;go_roundw;case rel=>exact⟨m,nx,_,ae,aa,hid aa,aa,hid (by rw[D.out];exact M.out),by rw[C.out];rfl,aq.trans a.out L.out⟩
       case measure=>simp[cd]
      .go_wp2_with (go_at_call 82;with_reducible refine gY.mono ?_;clear gY;rintro e cF ⟨rfl,p⟩);have L:=hid p;clear p;go_wp2;go_roundw;case rel=>exact⟨m,_,_,ae,aa,hid aa,aa,hid (by rw[D.out];rfl),by rw[C.out];rfl,aq.trans a.out L.out⟩
       case measure=>simp[cd]
     .go_wp2_with (go_at_call 81;with_reducible refine c1.mono ?_;clear c1;rintro e w' ⟨rfl,rfl⟩);have c2:=X.out;go_wp2_with (go_at_call 81;with_reducible refine c2.mono ?_;clear c2;rintro e w' ⟨rfl,rfl⟩);go_roundw;case rel=>exact⟨m,nx,_,ae,aa,hid aa,aa,hid (by rw[D.out];exact M.out),by rw[C.out];rfl,a.out⟩
      case measure=>simp[cd]
    .go_wp2_with (go_at_call 81;with_reducible refine c1.mono ?_;clear c1;rintro e w' ⟨rfl,rfl⟩);go_roundw;case rel=>exact⟨m,nx,_,ae,aa,hid aa,aa,hid (by rw[D.out];exact M.out),by rw[C.out];rfl,a.out⟩
     case measure=>simp[cd]
end
end G
end Go.Proofs.YtcmhplknoglbkaaGreat
