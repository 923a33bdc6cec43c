/- Part 12 of the proof of TopConfinedSaid. -/
import Derived.Test.YtcmhplknoglbkaaGreatQf0
import Derived.Test.YtcmhplknoglbkaaGreatQf3
import Derived.Test.YtcmhplknoglbkaaGreatQf5
import Derived.Test.YtcmhplknoglbkaaGreatQf7
import Derived.Test.YtcmhplknoglbkaaGreatQf9
import Derived.Test.YtcmhplknoglbkaaGreatQf10
import Derived.Test.YtcmhplknoglbkaaGreatQf11
set_option linter.all false
set_option maxRecDepth 100000
set_option maxHeartbeats 4000000
open Go.Proofs.Tryz
open Array renaming size->gB
open Bool renaming and_eq_true->x6,false->ao,true->az,true_and->Ks
open Classical renaming byContradiction->VF
open Decidable renaming of_not_not->x'
open Go renaming Calls->aC,Value->aO,bodyPost_ret->c8,results_cell_row->gH,undef->a1,wpList_nil->an,wp_region_lit->cy
open Go.Ending renaming returned->aB
open Go.IntKind renaming i64->R
open Go.Operand renaming tmp->bj
open Go.Proofs.Tryz renaming func42->BO,func8->zT,ntmps42->BQ,ntmps8->zU,prog->ax,underlying22->dK,underlying24->ey,underlying35->yg,underlying73->gi
open Go.Proofs renaming intOf->c'
open Go.RowKit renaming Hid->aE
open Go.Value renaming agg->ar,bool->ai,int->J,pointer->ay,slice->ae,tuple->bo
open Int renaming le_of_lt->Es,toNat_natCast->p3
open List.Pairwise renaming filter->Yn
open List.Perm renaming swap->Cd
open List renaming all_eq_true->Ce,eq_nil_iff_forall_not_mem->Eu,ext_getElem?->wW,filter_append->s8,getElem?_append_left->tZ,getElem?_append_right->oI,getElem?_drop->vv,getElem?_eq_getElem->cF,getElem?_eq_some_iff->eM,getElem?_inj->Yv,getElem?_map->jU,getElem?_take->q2,getElem_mem->Ex,length_append->db,length_take->oe,mem_append->iX,mem_cons->gD,mem_filter->nz,mem_flatMap->Lt,mem_iff_getElem?->p6,mem_map->gQ,mem_of_getElem?->cW,mem_range->mU,mem_singleton->ua,not_mem_nil->fS,pairwise_iff_getElem->mv,pairwise_map->yJ,range_succ->ta,take_add_one->gx,take_length->ll
open Nat renaming add_mul->vx,div_add_mod->Q6,div_eq_of_lt->Lu,div_le_self->vy,le_mul_of_pos_left->Cj,le_refl->b7,le_trans->eb,mod_lt->Ho,mul_add->ama,mul_add_div->amb,mul_comm->An,mul_div_le->amc,mul_le_mul_right->oK,one_mul->Lv,succ_le_succ->vA,zero_add->js,zero_div->amd,zero_le->cB
open Option renaming none->af,some->ab
open Or renaming inl->bZ,inr->cc
open Sum.inr renaming inj->Rk
namespace Go.Proofs.YtcmhplknoglbkaaGreat
namespace G
open Go.RowKit Go.MapKept
section
variable {w w':World} {F G:Nat->Prop} {b:Nat} {n:Int} {E:List (Int×Int)} {A:Option Addr} {c:Nat}
end
end G
section
open Go.RowKit Go.MapKept
attribute [local irreducible] wpList cM
def awH A(c i)off ms w(r:cZ w A ms)(I:ms.length<=1048576)(hi:i<=ms.length)(hv:∀m∈ms,eX (cm m))(hno:∀(j) y,j<i->ms[j]?=ab y->hasB y off=ao):
 aC ax 174 #[ae A ms.length c,J R (i:Int),J R off] w λe w'=>e=aB (ai ao)/\au w w':=by
 have x:=hid r;have D:=hid hv;have B:=hid hno;clear r hv hno;go_enter func174,ntmps174;have a:=a8 w;go_step;refine ah ?_;refine ag ?_;refine ah ?_;refine ag ?_;refine an ?_;have C:=a;go_wp2_with fail;go_loopw [7] (λf wr=>∃j:Nat,j<=i/\f=J R (j:Int)/\ak w (λ_=>False) wr []) (λf wr=>i -(c' f).toNat);case atStart=>grind
 case round=>
  clear a C;obtain⟨j,H,rfl,a⟩:=hrel;by_cases hlt:j<i
  .have F:(j:Int)<(i:Int):=ad;have q:j<ms.length:=ad;obtain⟨m,d⟩:∃m,ms[j]?=ab m:=⟨_,cF q⟩;obtain⟨b,g,t,E,n,o,p⟩:=cZ.jt x d;have u:=hid n;have G:=hid o;have v:=hid p;have k:=hid d;clear n o p d;have s:=D m (cW k);have h:=hid (λW=>abt _ _ _ W s _ (B j m hlt k));have l:=hid (λW=>Jv m t E W);clear s;obtain⟨z,hz⟩:=ex (cD m);rw[hz]at h l;clear hz;go_step;refine ah ?_;refine v2 ?_;refine a7 (ai az) ?_;refine gW ?_;refine aI (ay (ab ⟨b,(g+j*5),af⟩)) (b4 24 73 5 (bj 13) (bj 14) aa ey aw b g (ms.length) c j ((g+j*5)) (by show ae A _ _=_;rw[u]) aa q aa) ?_;refine aI _ (by(refine e5 73 _ aa b _ aa _ (v _ a.only) gi aa aw)) ?_;refine bH (l _) a (λw1 a=>?_);refine ag ?_;refine bH (h _) a (λK a=>?_);refine b5 ?_;refine pad (j:Int) 1 ((j+1:Nat):Int) ?_;refine bU ?_;go_wp2_with fail;go_roundw;case rel=>exact⟨j+1,ad,aa,a⟩
   case measure=>simp[c']<;>omega
  .have F:¬(j:Int)<(i:Int):=ad;go_step;refine ah ?_;refine v2 ?_;refine a7 (ai ao) ?_;refine ah ?_;refine ag ?_;refine an ?_;go_wp2_with fail;go_ret;exact⟨aa,a.only⟩
def avA A(c i)m ms w(p:cZ w A ms)(L:ms.length<=1048576)(r:ms[i]?=ab m)(l:i<ms.length)(hv:∀m∈ms,gJ m)(hno:m.k=1->∀off,m.fr<=off->off<m.fr+m.n->∀(j) y,j<i->ms[j]?=ab y->hasB y off=ao):
 aC ax 85 #[ae A ms.length c,J R (i:Int)] w λe w'=>e=aB (ae af 0 0)/\au w w':=by
 have P:=hid p;have V:(i:Int)<(ms.length:Int):=ad;have s:=hv m (cW r);have G:=hid (λW off g h=>awH A c i off ms W (p.aH g) L ad (λm K=>(hv m K).Gj) h);have D:=hid hno;obtain⟨f,o,O,Q,v,_,x⟩:=cZ.jt p r;have b:=hid v;have d:=hid x;clear p v x hno r hv;by_cases hk:m.k=1
 .obtain⟨S,T,U,_⟩:=s.copy hk;have q:aE ((m.k !=1)=ao):=hid aG;have C:=hid hk;clear hk s;go_enter Tryz.func85,Tryz.ntmps85;have a:=a8 w;go_upto_region 0 with fail;refine cy ?_;refine ag ?_;refine an ?_;go_upto_region 1 with fail;refine cy ?_;refine ag ?_;refine a7 (ai ao) ?_;refine v4 ?_;refine a7 (ai ao) ?_;refine v4 ?_;refine aI _ (b4 24 73 5 (bj 17) _ aa ey aw f o _ c i _ (by show ae A _ _=_;rw[b]) aa l aa) ?_;refine ag ?_;refine aI _ (mc aa aa (d _ a.only 0 _ aa) aw) ?_;refine dp q (ai ao) ?_;refine ag ?_;refine an ?_;go_upto_region 3 with fail;refine cy ?_;refine ag ?_;refine an ?_;go_upto_region 4 with fail;refine cy ?_;refine v2 ?_;refine aI _ (b4 24 73 5 (bj 24) _ aa ey aw f o _ c i _ (by show ae A _ _=_;rw[b]) aa l aa) ?_;refine ag ?_;refine aI _ (mc aa aa (d _ a.only 2 _ aa) aw) ?_;refine ag ?_;refine an ?_;have F:=a;go_wp2_with fail;go_loopw [5,6] (λB u wr=>∃t:Nat,(t:Int)<=m.n/\B=ae af 0 0/\u=J R (m.fr+(t:Int))/\ak w (λ_=>False) wr []) (λB u wr=>(m.n -(c' u -m.fr)).toNat);case atStart=>grind
  case round=>
   clear a F;obtain⟨t,X,rfl,rfl,a⟩:=hrel;obtain⟨off,z⟩:=ex (m.fr+(t:Int));rw[z];by_cases hlt:(t:Int)<m.n
   .have I:off<m.fr+m.n:=ad;have E:=hid z;go_upto_region 5 with fail;refine bN a [] (λ_ _=>a1) (λ_ _=>emp) (λ_=>[]) (λ_=>[]) (λ_=>[]) [] (λN=>?_);refine c5 ?_;refine aK _ (λ_ _ _=>b4 24 73 5 _ _ aa ey aw f o _ c i _ (by show ae A _ _=_;rw[b]) aa l aa) ?_;refine aJ ?_;refine aK _ (λ_ _ a=>mc aa aa (d _ a.only 2 _ aa) aw) ?_;refine bx ?_;refine aK _ (λ_ _ _=>b4 24 73 5 _ _ aa ey aw f o _ c i _ (by show ae A _ _=_;rw[b]) aa l aa) ?_;refine aJ ?_;refine aK _ (λ_ _ a=>mc aa aa (d _ a.only 3 _ aa) aw) ?_;refine aK _ (λ_ _ _=>mw 3 _ _ 3 aa _ _ (m.fr+m.n) aa aa ad ad ad) ?_;refine aK (ai az) (λ_ _ _=>by(go_simp;try omega)) ?_;refine bQ λw1 a=>?_;go_upto_region 7 with fail;refine cy ?_;refine v3 ?_;refine aR (G _ off a.only (λj y H M=>D C off ad ad j y H M)) ?_;rintro e Y ⟨rfl,g⟩;replace a:=a.aH g;refine aT ?_;refine pk (ai az) ?_;refine an ?_;go_upto_region 6 with fail;refine cy ?_;refine ag ?_;refine pad _ 1 (off+1) ?_;refine ag ?_;refine an ?_;go_wp2_with fail;go_roundw;case rel=>exact⟨t+1,ad,aa,by rw[<-E];congr 1;omega,a⟩
    case measure=>simp[c']<;>omega
   .have I:¬off<m.fr+m.n:=ad;go_upto_region 5 with fail;refine bN a [] (λ_ _=>a1) (λ_ _=>emp) (λ_=>[]) (λ_=>[]) (λ_=>[]) [] (λN=>?_);refine c5 ?_;refine aK _ (λ_ _ _=>b4 24 73 5 _ _ aa ey aw f o _ c i _ (by show ae A _ _=_;rw[b]) aa l aa) ?_;refine aJ ?_;refine aK _ (λ_ _ a=>mc aa aa (d _ a.only 2 _ aa) aw) ?_;refine bx ?_;refine aK _ (λ_ _ _=>b4 24 73 5 _ _ aa ey aw f o _ c i _ (by show ae A _ _=_;rw[b]) aa l aa) ?_;refine aJ ?_;refine aK _ (λ_ _ a=>mc aa aa (d _ a.only 3 _ aa) aw) ?_;refine aK _ (λ_ _ _=>mw 3 _ _ 3 aa _ _ (m.fr+m.n) aa aa ad ad ad) ?_;refine aK (ai ao) (λ_ _ _=>by(go_simp;try omega)) ?_;refine bQ λZ a=>?_;go_upto_region 12 with fail;refine cy ?_;refine v2 ?_;refine an ?_;go_wp2_with fail;go_ret;exact⟨aa,a.only⟩
 .have q:=hid (bne_iff_ne.2 hk);clear hk s;go_enter Tryz.func85,Tryz.ntmps85;have a:=a8 w;go_upto_region 0 with fail;refine cy ?_;refine ag ?_;refine an ?_;go_upto_region 1 with fail;refine cy ?_;refine ag ?_;refine a7 (ai ao) ?_;refine v4 ?_;refine a7 (ai ao) ?_;refine v4 ?_;refine aI _ (b4 24 73 5 (bj 17) _ aa ey aw f o _ c i _ (by show ae A _ _=_;rw[b]) aa l aa) ?_;refine ag ?_;refine aI _ (mc aa aa (d _ a.only 0 _ aa) aw) ?_;refine dp q (ai az) ?_;refine ag ?_;refine an ?_;go_upto_region 2 with fail;refine cy ?_;refine ag ?_;refine an ?_;go_wp2_with fail;go_ret;exact⟨aa,a.only⟩
def awa A c ms w(b:cZ w A ms)(t:ms.length<=1048576)(hv:∀m∈ms,gJ m)(hno:∀(i j:Nat) (m y),j<i->ms[i]?=ab m->ms[j]?=ab y->m.k=1->∀off,m.fr<=off->off<m.fr+m.n->hasB y off=ao):
 aC ax 34 #[ae A ms.length c] w λe w'=>e=aB (J R (ms.length:Int))/\au w w':=by
 have v:=hid b;have o:=hid (λW i m g h=>avA A c i m ms W (b.aH g) t h (eM.1 h).1 hv (λhk off h1 r j y f u=>hno i j m y f h u hk _ h1 r));clear b hv hno;go_enter func34,ntmps34;have a:=a8 w;go_step;refine ah ?_;refine ag ?_;refine ah ?_;refine ag ?_;refine an ?_;have q:=a;go_wp2_with fail;go_loopw [3] (λd wr=>∃j:Nat,j<=ms.length/\d=J R (j:Int)/\ak w (λ_=>False) wr []) (λd wr=>ms.length -(c' d).toNat);case atStart=>grind
 case round=>
  clear a q;obtain⟨j,f,rfl,a⟩:=hrel;by_cases hlt:j<ms.length
  .have s:(j:Int)<(ms.length:Int):=ad;obtain⟨m,l⟩:∃m,ms[j]?=ab m:=⟨_,cF hlt⟩;have p:=hid l;clear l;go_step;refine ah ?_;refine v3 ?_;refine a7 (ai az) ?_;refine gW ?_;refine bH (o.out _ j m a.only p.out) a (λw1 a=>?_);refine ag ?_;refine pk (ai ao) ?_;refine b5 ?_;refine pad (j:Int) 1 ((j+1:Nat):Int) ?_;refine bU ?_;go_wp2_with fail;go_roundw;case rel=>exact⟨j+1,ad,aa,a⟩
   case measure=>grind[c']
  .have s:¬(j:Int)<(ms.length:Int):=ad;go_step;refine ah ?_;refine v3 ?_;refine a7 (ai ao) ?_;refine ah ?_;refine v3 ?_;refine an ?_;go_wp2_with fail;go_ret;exact⟨aa,a.only⟩
end
section
open Go.RowKit Go.MapKept
attribute [local irreducible] wpList cM
end
def ap0{ms off}(h:¬tl ms off<0):∃m∈ms,hasB m off=true:=by grind[tl]
theorem H7{m off}:hasB m off=az↔m.to<=off/\off<m.to+cD m:=by grind[hasB]
def oM.fits{o n:Nat}{ms}(h:oM (o:Int) (n:Int) ms):∀m∈ms,j3 o n m:=λm a=>ago (h.bE m a)
def oM.lays{o n:Nat}{ms}(h:oM (o:Int) (n:Int) ms):Lays n (ms.map cm):=by
 have c:∀m∈ms,0<=m.to/\0<cD m/\m.to+cD m<=(n:Int):=λm a=>by obtain⟨h1,_,d⟩:=h.fits m a;exact⟨h1.cm.1,h1.cm.2.1,d⟩
 have f:=λt b hlt=>by have h1:=h.aaJ t b;unfold oh at h1;rw[decide_eq_true hlt,Ks]at h1;exact ap0 (of_decide_eq_false h1)
 refine⟨λx hx=>?_,?_,λhn=>?_,λx hx hlt=>?_⟩;·obtain⟨m,a,rfl⟩:=gQ.1 hx;exact c m a
 .rw[yJ,mv];intro i j hi g l;have h1:=h.ap j i _ _ l (cF g) (cF hi);have q:=c _ (Ex hi);have d:=c _ (Ex g);unfold meets at h1;have k:=of_decide_eq_false h1;simp only[cm]at k⊢;omega
 .obtain⟨m,a,h1⟩:=f 0 (cB _) (by show(0:Int)<n;omega);exact⟨_,gQ.2 ⟨m,a,aa⟩,H7.1 h1⟩
 .obtain⟨m,a,rfl⟩:=gQ.1 hx;obtain⟨t,b⟩:=p6.1 a;have e:wh ms (t+1)=m.to+cD m:=by simp only[wh,b]
  obtain⟨y,p,h1⟩:=f (t+1) (eM.1 b).1 (by rw[e];exact hlt);rw[e]at h1;exact⟨_,gQ.2 ⟨y,p,aa⟩,H7.1 h1⟩
def oM.rJ{o n:Nat}{ms}(h:oM (o:Int) (n:Int) ms)(a:ms.length<=20):r6 o n ms:=
 ⟨h.bd.2.1,h.bd.2.2,h.fits,agH h.lays h.bd.2.2,a⟩
def agx{n ms}(h:Lays n (ms.map cm))i(a:0<=i):∀k,k<=(jv ms).length->i<iI ((jv ms).take k)->∃m∈ms,hasB m i=az
 |0,_,hi=>by grind[iI]
 |k+1,hk,hi=>by
  obtain⟨x,hx⟩:∃x,(jv ms)[k]?=ab x:=⟨_,cF ad⟩;have h1:=((I4 (h.perm (Oe ms).symm) (JB ms) _ hk).1 k x ad hx).1;have b:=EV hx;by_cases hlt:i<iI ((jv ms).take k);·exact agx h i a k ad hlt
  .have c:=(Oe ms).mem_iff.1 (gQ.2 ⟨x,cW hx,aa⟩);grind[cm,H7]
def Lays.RP{n}{ms:List bO}(h:Lays n (ms.map cm))i(hi:i<n):∃m∈ms,hasB m (i:Int)=true:=by have h1:=adW (h.perm (Oe ms).symm) (JB ms);exact agx h (i:Int) ad (jv ms).length (b7 _) aG
theorem auE{a b q i}(h:q+b.length<=a.length)(h1:q<=i)(c:i<q+b.length):(jP a q b)[i]?=b[i -q]?:=by grind[jP]
def aeT{a b q i}(h:q+b.length<=a.length)(h1:i<q\/q+b.length<=i):(jP a q b)[i]?=a[i]?:=by
 unfold jP;rcases h1 with h1|h1;·grind
 .rw[oI aG,db,oe,Nat.min_eq_left ad,vv];congr 1;omega
def Rb(n:Int)(e:Int×Int):Prop:=(0<=e.1/\e.1<n)/\(0<=e.2/\e.2<n)/\e.1≠e.2
def atC{n E e x}:x∈G.qa n E e↔x∈E\/(x=e/\Rb n e):=by grind[G.qa,Rb,G.canAdd,G.qt]
def aeg{n x}:∀{l E},x∈G.jB n E l↔x∈E\/(x∈l/\Rb n x)
 |[],E=>by simp[G.jB]
 |e::r,E=>by
  have h:G.jB n E (e::r)=G.jB n (G.qa n E e) r:=rfl;rw[h,aeg,atC];constructor
  .rintro((h|⟨rfl,h⟩)|⟨h1,h2⟩);·exact bZ h
   .exact cc ⟨bc,h⟩
   .exact cc ⟨by simp[h1],h2⟩
  .rintro(h|⟨h1,h2⟩);·exact bZ (bZ h)
   .rcases gD.1 h1 with rfl|h1;·exact bZ (cc ⟨aa,h2⟩)
    .exact cc ⟨h1,h2⟩
theorem HN{ms i j}:HM ms i j=az↔∃m y,ms[i]?=ab m/\ms[j]?=ab y/\i≠j/\m.k=1/\meets (src m) (cm y)=true:=by grind[HM]
def Ky(ms:List bO)(e:Int×Int):Prop:=∃i j:Nat,e=((i:Int),(j:Int))/\HM ms i j=az
theorem R3{ms i j}(h:HM ms i j=az):i<ms.length/\j<ms.length/\i≠j:=by grind[HN]
def TP{ms e}:e∈Jp ms ms.length↔Ky ms e:=by unfold Jp afK Ky;grind[R3]
def aeh{ms S}(p:S.Perm (iJ (ms.map cm))){e}:e∈ti ms S↔Ky ms e:=by
 unfold ti;rw[aeg]
 have o:∀i j:Nat,i<ms.length->(((i:Int),(j:Int))∈yY ms S i↔∃m y,ms[i]?=ab m/\ms[j]?=ab y/\m.k=1/\meets (src m) (cm y)=az):=λi j hi=>by
  obtain⟨m,c⟩:∃m,ms[i]?=ab m:=⟨_,cF hi⟩;by_cases hk:m.k=1
  .rw[RJ c hk];unfold F3 parts;simp only[gQ,nz];constructor
   .rintro⟨_,⟨_,⟨x,⟨hx,pA⟩,rfl⟩,rfl⟩,e⟩;injection e with bF cq;obtain⟨k,h1,d⟩:=A4.1 (p.mem_iff.1 hx);have:k=j:=ad;subst this;rw[jU]at h1;cases hy:ms[k]? with
    |none=>grind
    |some y=>
     rw[hy]at h1;injection h1 with h1;exact⟨m,y,c,aa,hk,by rw[h1,FU];exact pA⟩
   .rintro⟨aY,y,MO,hy,_,pA⟩;rw[c]at MO;injection MO with MO;subst MO;exact⟨(j:Int),⟨((j:Int),mh (cm y) (m.fr,m.n)),⟨(cm y,(j:Int)),⟨p.mem_iff.2 (A4.2 ⟨j,aG,aa⟩),by rw[FU];exact pA⟩,aa⟩,aa⟩,aa⟩
  grind[RL]
 constructor
 .rintro(h|⟨h,h1,d,l⟩);·grind
  .unfold mA at h;obtain⟨i,hi,c⟩:=Lt.1 h;have hi':=mU.1 hi;obtain⟨a,b⟩:=e;simp only at h1 d l;obtain⟨j,rfl⟩:=Int.eq_ofNat_of_zero_le d.1
   have r:a=(i:Int):=by
    obtain⟨m,s⟩:∃m,ms[i]?=ab m:=⟨_,cF hi'⟩;by_cases hk:m.k=1;·rw[RJ s hk]at c;unfold F3 at c;grind
    .grind[RL]
   subst r;obtain⟨m,y,g1,g2,g,f⟩:=(o i j hi').1 c;exact⟨i,j,aa,HN.2 ⟨m,y,g1,g2,ad,g,f⟩⟩
 .rintro⟨i,j,rfl,he⟩;obtain⟨h1,d,l⟩:=R3 he;obtain⟨m,y,g1,g2,g,f,q⟩:=HN.1 he;refine cc ⟨Lt.2 ⟨i,mU.2 h1,(o i j h1).2 ⟨m,y,g1,g2,f,q⟩⟩,⟨?_,?_,?_⟩⟩<;>simp only<;>omega
def Z9{ms E}(h:∀e,e∈E↔Ky ms e):G.Valid ms.length E:=λe a=>by obtain⟨i,j,rfl,hb⟩:=(h e).1 a;obtain⟨h1,b,c⟩:=R3 hb;refine⟨?_,?_,?_⟩<;>simp only<;>omega
def oM.an1{o n:Nat}{ms}(h:oM (o:Int) (n:Int) ms)(p:ms.length<=20):Gy ms:=
 ⟨ad,⟨λe k=>by
   obtain⟨m,f,rfl⟩:=gQ.1 k;have h1:=(h.fits m f).1.cm;exact⟨⟨h1.1,Es h1.2.1,h1.2.2⟩,h1.2.1⟩,λi j x y l hx c=>by
   rw[jU]at hx c;cases h1:ms[i]? with
   |none=>grind
   |some a=>
    cases d:ms[j]? with
    |none=>grind
    |some b=>
     rw[h1]at hx;rw[d]at c;injection hx with hx;injection c with c;rw[<-hx,<-c];exact h.ap i j a b l h1 d⟩,λm f hk=>by
   obtain⟨h1,d,g,_⟩:=(h.fits m f).1.copy hk;exact⟨h1,Es d,g⟩⟩
def ae9{E v x}(h:G.Path E v x):∃y,(v,y)∈E:=Uc h
structure Choice (ms:List bO) (S:List jS) (o od AI:List Int):Prop where
 iH:Conv ms S o od
 A7:o.Nodup
 HH:∀x∈o,∃(i:Nat) (m:bO),x=(i:Int)/\ms[i]?=ab m/\m.k=1
 ord:G.oH (Jp ms ms.length) ms.length [] AI
 free:decide (G.nQ ms.length [] AI=[])=decide (o.length=0)
theorem ad6{ms x}:x∈kb ms ms.length↔∃(i:Nat) (m:bO),x=(i:Int)/\ms[i]?=ab m/\m.k=2:=by unfold kb;grind[isLit]
def anI{o n:Nat}{ms}(h:oM (o:Int) (n:Int) ms)(F:ms.length<=20):∃S ev od AI,Choice ms S ev od AI:=by
 have hc:=h.an1 F;obtain⟨S,w,C⟩:=aaH hc.right;have g:=λe=>aeh w (e:=e);have d:=Z9 g
 have s:∀x y,(x,y)∈ti ms S->∃(i:Nat) (m:bO),x=(i:Int)/\ms[i]?=ab m/\m.k=1:=λx y c=>by obtain⟨i,j,e,hb⟩:=(g _).1 c;injection e with bF cq;obtain⟨m,y,g1,_,_,A,_⟩:=HN.1 hb;exact⟨i,m,bF,g1,A⟩
 obtain⟨ev,xs,hch⟩:=G.anK d (ms.map (·.n)) (kb ms ms.length)
 have L:xs=[]:=by
  refine Eu.2 λx hx=>?_;have h1:=hch.2.2;rw[G.Rt]at h1;have f:x∉G.kept xs (kb ms ms.length):=by rw[h1];simp
  rw[G.TO]at f;have B:=VF λhn=>f ⟨hx,hn⟩;obtain⟨y,r⟩:=ae9 ((hch.2.1.2 x).1 hx);obtain⟨i,m,rfl,H,hk⟩:=s x y (G.uP.1 r).1;obtain⟨M,O,e,l,hk2⟩:=ad6.1 B;obtain rfl:i=M:=ad;rw[H]at l;injection l with l;subst l;omega
 subst L;obtain⟨od,v⟩:=G.aeS (ti ms S) ms.length (kb ms ms.length++ev);obtain⟨bk,hx2⟩:=G.HK d (kb ms ms.length++ev)
 have K:=Eu.2 λx hx=>by
  have h1:=(hx2.2 x).1 hx
  have f:G.Path (G.cut _ ev) x x:=h1.mono λe c=>by obtain⟨a,b⟩:=e;obtain⟨g1,g2,z⟩:=G.uP.1 c;exact G.uP.2 ⟨g1,λh=>g2 (by simp[h]),λh=>z (by simp[h])⟩
  exact absurd ((hch.2.1.2 x).2 f) bc
 have I:=hch.1.nodup d;obtain⟨N,hx0⟩:=G.HK d [];have t:=hch.1.aov hx0;obtain⟨AI,u⟩:=G.aeS (Jp ms ms.length) ms.length [];have D:=Z9 (λe=>TP (ms:=ms) (e:=e))
 have J:G.kP (Jp ms _) [] N:=⟨hx0.1,λx=>by rw[hx0.2 x,G.HJ,G.HJ];exact⟨λp=>p.mono λe c=>TP.2 ((g e).1 c),λp=>p.mono λe c=>(g e).2 (TP.1 c)⟩⟩;have E:=u.afA D J;refine⟨S,ev,od,AI,⟨hc,w,C,hch,v,(v.afA d hx2).2 K,?_⟩,I.1,λx hx=>?_,u,?_⟩;·have:=hch.1.length d;omega
 .have h1:=(hx0.2 x).1 (t x hx);rw[G.HJ]at h1;obtain⟨y,r⟩:=ae9 h1;exact s x y r
 .have:(G.nQ ms.length [] AI=[])↔ev.length=0:=by
   rw[E,List.length_eq_zero_iff];constructor;·rintro rfl;exact Eu.2 λx hx=>absurd (t x hx) bc
   .rintro rfl;exact hx0.unique hch.2.1
  by_cases q:ev.length=0;·rw[decide_eq_true q,decide_eq_true (this.2 q)]
  .rw[decide_eq_false q,decide_eq_false (λh=>q (this.1 h))]
def aak{o n old ev m i}(h:j3 o n m)(ho:old.length=o):cm (nE old ev i m)=cm m:=by
 unfold nE;by_cases hc:m.k=1/\(i:Int)∈ev;·rw[if_pos hc];obtain⟨h1,a,_⟩:=h.1.copy hc.1;have b:=h.2.1 hc.1;grind[cm,cD]
 .grind
theorem R6{o n old ev m i}(h:j3 o n m)(ho:old.length=o):j3 o n (nE old ev i m):=by
 have a:=aak (ev:=ev) (i:=i) h ho;unfold nE at a⊢;by_cases hc:m.k=1/\(i:Int)∈ev;·rw[if_pos hc]at a⊢;obtain⟨h1,c,_⟩:=h.1.copy hc.1;have d:=h.2.1 hc.1;have b:=h.1.cm;have e:=h.2.2;unfold cm at a;injection a with _ a;have hlen:cD (⟨2,m.to,0,0,(old.drop m.fr.toNat).take m.n.toNat⟩:bO)=(((old.drop m.fr.toNat).take m.n.toNat).length:Int):=ba;rw[hlen]at a;refine⟨cc ⟨aa,⟨b.1,ad,aG⟩,rfl,rfl,aG⟩,λhk=>absurd hk (show¬(2:Int)=1 by decide),ad⟩
 .grind
theorem agE{old ev ms}i:(lW old ev ms)[i]?=(ms[i]?).map (nE old ev i):=by grind[lW]
def US{old ev ms}:(lW old ev ms).length=ms.length:=by grind[lW]
def UT{o n old ev ms}(a:∀m∈ms,j3 o n m)(ho:old.length=o):(lW old ev ms).map cm=ms.map cm:=by
 refine wW λi=>?_;rw[jU,jU,agE];cases hm:ms[i]? with
 |none=>rfl
 |some m=>
  simp only[Option.map_some];rw[aak (a m (cW hm)) ho]
def FE(m:bO):Bool:=decide (m.k=1)
def axu{l}(h:∀m∈l,m.k=1\/m.k=2):(l.filter FE++lits l).Perm l:=by
 have e:lits l=l.filter (λm=>!FE m):=List.filter_congr λm a=>by grind[FE]
 rw[e];exact List.filter_append_perm _ _
def aas{o n m}(h:j3 o n m):m.k=1\/m.k=2:=by
 rcases h.1 with h|h;·omega
 .omega
def ad0(ms:List bO)(ev:List Int)(v:Int):Bool:=!decide (v∈kb ms ms.length++ev)
def at5{N E s od}(h:G.oH E N s od)(b:G.nQ N s od=[]):od.Perm ((G.gv N).filter (λv=>!decide (v∈s))):=by
 refine(List.perm_ext_iff_of_nodup h.1.nodup.1 ((G.Dl (G.JL N)).filter _)).2 λv=>?_;rw[nz,G.A6];constructor;·intro hv;obtain⟨h1,a⟩:=h.1.nodup.2 v hv;exact⟨h1,by simp[a]⟩
 .rintro⟨h1,a⟩;refine VF λhn=>?_;have:=G.Ny.2 ⟨h1,by simpa using a,hn⟩;rw[b]at this;cases this
def ayc j:G.gv (j+1)=G.gv j++[(j:Int)]:=by grind[G.gv,ta]
def aeR{o n old ev ms}(a:∀m∈ms,j3 o n m):∀j,j<=ms.length->((G.gv j).filter (ad0 ms ev)).filterMap (λx=>ms[x.toNat]?)=((lW old ev ms).take j).filter FE
 |0,_=>by rfl
 |j+1,e=>by
  obtain⟨m,b⟩:∃m,ms[j]?=ab m:=⟨_,cF ad⟩;have c:(lW old ev ms)[j]?=ab (nE old ev j m):=by grind[agE]
  rw[ayc,s8,List.filterMap_append,aeR a j ad,gx,c,s8];congr 1;have f:(j:Int)∈kb ms ms.length↔m.k=2:=by grind[ad6]
  have hk:=aas (a m (cW b));unfold ad0 nE FE;simp only[iX,Option.toList_some];by_cases d:m.k=1;·grind
  .grind
def aus{o n old ev od ms S}(a:∀m∈ms,j3 o n m)(hc:Conv ms S ev od):(fu ms od).Perm ((lW old ev ms).filter FE):=by have h1:=aeR (old:=old) (ev:=ev) a _ (b7 _);rw[<-US (old:=old) (ev:=ev),ll,US]at h1;rw[<-h1];exact(at5 hc.ord hc.all).filterMap _
def ath{o n old ev ms}(e:∀m∈ms,j3 o n m)(ho:old.length=o)(cd:Lays n (ms.map cm)):∃rs,Ch old ms ev rs:=by
 obtain⟨L,c⟩:=ex (lits (lW old ev ms))
 have hap:L.Pairwise (λx y=>x.to+cD x<=y.to\/y.to+cD y<=x.to):=by rw[<-c];have h1:=cd.apart;rw[<-UT (ev:=ev) e ho,yJ]at h1;exact Yn _ h1
 have k:∀m∈L,0<cD m:=λm g=>by rw[<-c]at g;obtain⟨i,x,hx,rfl⟩:=Oj (nz.1 g).1;exact(R6 (e x (cW hx)) ho).1.cm.2.1
 have b:(o7 L).Perm L:=by
  unfold o7;refine((aeP L).filterMap _).trans (List.Perm.of_eq ?_)
  have key:∀j,j<=L.length->(List.range j).filterMap (λi=>L[i]?)=L.take j:=by
   intro j;induction j with
   |zero=>simp
   |succ j r=>grind[ta,gx]
  rw[key _ (b7 _),ll]
 refine⟨o7 L,aG,?_⟩;have d:=(b.symm.pairwise_iff (λh=>h.symm)).1 hap;have hle:(o7 L).Pairwise (λx y=>x.to<=y.to):=by grind[o7,aeQ,nR]
 rw[mv]at d hle⊢;intro i j hi a f;have h1:=d i j hi a f;have l:=hle i j hi a f;have p:=k _ (b.mem_iff.1 (Ex hi));have q:=k _ (b.mem_iff.1 (Ex a));omega
def an9{o n old ev od ms rs S}(a:∀m∈ms,j3 o n m)(ho:old.length=o)(hc:Conv ms S ev od)(hr:Ch old ms ev rs):(fu ms od++rs).Perm (lW old ev ms):=
 ((aus a hc).append hr.perm).trans (axu λm b=>by obtain⟨i,x,hx,rfl⟩:=Oj b;exact aas (R6 (a x (cW hx)) ho))
def an8{o n old ev}{ms l:List bO}(a:∀m∈ms,j3 o n m)(ho:old.length=o)(b:l.Perm (lW old ev ms)):∀m∈l,j3 o n m:=by grind[Oj,R6,cW]
def aob{o n old ev ms l}(c:∀m∈ms,j3 o n m)(ho:old.length=o)(cd:Lays n (ms.map cm))(a:l.Perm (lW old ev ms))(d:ms.length<=20)(h1:(o:Int)<=4611686018427387903)(b:(n:Int)<=4611686018427387903):r6 o n l:=
 ⟨h1,b,an8 c ho a,agH (cd.perm (by rw[<-UT (ev:=ev) c ho];exact(a.map _).symm)) b,by rw[a.length_eq,US];exact d⟩
def T8{ms}:∀{od},(∀x∈od,∃i:Nat,x=(i:Int)/\i<ms.length)->∀(j:Nat) m,(fu ms od)[j]?=ab m->∃a:Nat,od[j]?=ab (a:Int)/\ms[a]?=ab m
 |[],_,j,m,h=>by grind[fu]
 |x::r,hx,j,m,h=>by
  obtain⟨i,rfl,hi⟩:=hx x bc
  have e:fu ms ((i:Int)::r)=ms[i]::fu ms r:=by unfold fu;rw[List.filterMap_cons,p3,cF hi]
  rw[e]at h;cases j with
  |zero=>
   refine⟨i,aa,?_⟩;rw[cF hi];exact h
  |succ j=>exact T8 (λy b=>hx y (by simp[b])) j m h
def atk{l m}(h:m∈lits l):m.k=2:=of_decide_eq_true (nz.1 h).2
def auv{E N s od}(h:G.lj E N s od){i j:Nat}{a b}(c:od[i]?=ab a)(hb:od[j]?=ab b)(d:(a,b)∈E):i<j:=by obtain⟨f,e⟩:=eM.1 hb;obtain⟨hi,hai⟩:=eM.1 c;have h1:=(h.at (od.take j) b (od.drop (j+1)) (by grind[List.getElem_cons_drop,List.take_append_drop])).1.2.2.2 a d;have g:=h.nodup;grind[p6,Yv]
def aoa{o n old ev od ms rs S}(s:∀m∈ms,j3 o n m)(hc:Conv ms S ev od)(hr:Ch old ms ev rs)(f:∀x∈od,∃i:Nat,x=(i:Int)/\i<ms.length):
 ∀(i j:Nat) (m y),j<i->(fu ms od++rs)[i]?=ab m->(fu ms od++rs)[j]?=ab y->m.k=1->∀off,m.fr<=off->off<m.fr+m.n->hasB y off=false:=λi j m y t c g hk off h1 q=>by
 have hi:i<(fu ms od).length:=by refine VF λhn=>?_;rw[oI ad]at c;have:=atk (hr.perm.mem_iff.1 (cW c));omega
 rw[tZ hi]at c;rw[tZ ad]at g;obtain⟨a,d,l⟩:=T8 f i m c;obtain⟨b,hb,p⟩:=T8 f j y g;refine Bool.eq_false_iff.2 λhh=>?_;have r:=H7.1 hh
 have hab:a≠b:=λe=>by subst e;have:=(Yv (eM.1 d).1 hc.ord.1.nodup.1).1 (d.trans hb.symm);omega
 have h:=(aeh hc.perm).2 ⟨a,b,aa,HN.2 ⟨m,y,l,p,hab,hk,by grind[meets,src,cm]⟩⟩;have:=auv hc.ord.1 d hb h;omega
section
open Go.RowKit Go.MapKept
attribute [local irreducible] wpList cM
structure GA (s:Nat) (ms:List bO):Prop where
 dL:ms.length<=30
 each:∀m∈ms,uk m=0/\m.data.length<=300/\vF s m<=300
 sum:oP s ms<=300
def avv m b(c s:Nat)w(r:1<=s)(h1:1<=cD m)(j:cD m<=4611686018427387904):
 aC ax 187 #[nC m b c,J R (s:Int)] w λe w'=>e=aB (J R ((vF s m:Nat):Int))/\au w w':=by
 unfold vF;obtain⟨z,hz⟩:=ex (cD m);have i:aE (∀W,aC _ _ #[ar _] W λe w'=>e=aB (J _ z)/\au W w'):=hid (λW=>by rw[<-hz];exact Js m b c W);rw[hz]at h1 j⊢;obtain⟨p,g⟩:∃p:Nat,z -1=(p:Int):=⟨(z -1).toNat,ad⟩;rw[g,p3];obtain⟨d,f⟩:=ex (p/s);have q:d<=p:=by rw[<-f];exact vy _ _
 rw[f];have o:=hid g;have h:=hid f;clear hz f;have hsz:¬(s:Int)<1:=ad;go_enter func187,ntmps187;have a:=a8 w;go_step;refine ah ?_;refine bL (cs:=#[J _ _,J _ _,J _ _,J _ _,ae b _ c]) a _ (λl w1 a=>?_);refine cA ?_;refine a7 (ai ao) ?_;refine ah ?_;refine bh a 0 #[J R m.k,J R m.to,J R m.fr,J R m.n,ae b m.data.length c] ?_;refine bH (i _) a (λt a=>?_);refine j0 z 1 _ ?_;refine ag ?_;refine aI _ (te 3 _ _ 3 aa p s d aa aa ad h ad) ?_;refine pad _ 1 ((d+1:Nat):Int) ?_;refine bU ?_;go_wp2_with fail;go_ret;exact⟨aa,a.only⟩
def avV s A c ms w(hs:1<=s)(hl:cZ w A ms)(f':ms.length<=1048576)(ho:∀m∈ms,pF m)b(hb:b=az↔GA s ms):
 aC ax 97 #[J R (s:Int),ae A ms.length c] w λe w'=>e=aB (ai b)/\au w w':=by
 have cO:=hid hl;have ff:=hid ho;have n:=hid hb;clear hl ho hb;have hsz:¬(s:Int)<1:=ad;by_cases aAJ:30<ms.length
 .have hz:(30:Int)<(ms.length:Int):=ad
  obtain rfl:b=false:=by
   cases b with
   |false=>rfl
   |true=>have h:=(n.1 aa).dL;omega
  go_enter Tryz.func97,Tryz.ntmps97;have a:=a8 w;go_upto_region 0 with fail;refine cy ?_;refine ag ?_;refine an ?_;go_upto_region 1 with fail;refine cy ?_;refine v2 ?_;refine a7 (ai az) ?_;refine ag ?_;iterate 2 refine ps ?_
  refine ag ?_;refine an ?_;go_upto_region 2 with fail;refine cy ?_;refine ag ?_;refine an ?_;go_wp2_with fail;go_ret;exact⟨aa,a.only⟩
 .have hz:¬(30:Int)<(ms.length:Int):=ad;go_enter Tryz.func97,Tryz.ntmps97;have a:=a8 w;go_upto_region 0 with fail;refine cy ?_;refine ag ?_;refine an ?_;go_upto_region 1 with fail;refine cy ?_;refine v2 ?_;refine a7 (ai ao) ?_;refine v2 ?_;refine a7 (ai ao) ?_;refine ag ?_;refine an ?_;go_upto_region 3 with fail;refine cy ?_;refine ag ?_;refine an ?_;go_upto_region 4 with fail;refine cy ?_;refine ag ?_;refine an ?_;have V:=a;go_wp2_with fail;go_loopw [5,6] (λI' P wr=>∃j:Nat,j<=ms.length/\I'=J R ((oP s (ms.take j):Nat):Int)/\P=J R (j:Int)/\oP s (ms.take j)<=300*j/\aE (∀(i:Nat) (x:bO),i<j->ms[i]?=ab x->uk x=0/\x.data.length<=300/\vF s x<=300)/\ak w (λ_=>False) wr []) (λI' P wr=>ms.length -(c' P).toNat);case atStart=>exact⟨0,cB _,aa,aa,b7 _,hid (λi x h=>absurd h (Nat.not_lt_zero _)),V⟩
  case round=>
   clear a V;obtain⟨j,hj,rfl,rfl,hsj,S,a⟩:=hrel;obtain⟨zv,N⟩:=ex (oP s (ms.take j));rw[N]at hsj⊢;have I:=hid N;clear N;by_cases hlt:j<ms.length
   .have cf:(j:Int)<(ms.length:Int):=ad;obtain⟨m,v⟩:∃m,ms[j]?=ab m:=⟨_,cF hlt⟩;obtain⟨d,p,Q,X,Y,Z,dg⟩:=cZ.jt cO v;have f:=hid Y;have iV:=hid Z;have k:=hid dg;have l:=hid v;clear Y Z dg v;go_upto_region 5 with fail;refine cy ?_;refine v3 ?_;refine a7 (ai az) ?_;refine an ?_;have S5:=ff m (cW l);have q:aE (∀W,aC _ _ #[ar _] W λe w'=>e=aB _/\au W w'):=hid (λW=>afq m Q X W S5);obtain⟨gz,o⟩:=ex (uk m);rw[o]at q;have F:=hid o;clear S5 o;by_cases o:gz=0
    .subst o;have T:aE (((0:Int)!=0)=ao):=hid aa;have wa:=RG F;have D:=wa.cm;by_cases C:m.data.length>300
     .have t:(m.data.length:Int)>300:=ad;have z:=hid t;have E:=hid C;clear C t;go_upto_region 7 with fail;refine cy ?_;refine v2 ?_;refine aI _ (b4 24 73 5 _ _ aa ey aw _ _ _ _ _ _ (by show ae A _ _=_;rw[f]) aa hlt aa) ?_;refine aI _ (by(refine e5 73 _ aa d _ aa _ (k _ a.only) gi aa aw)) ?_;refine aR (q _) ?_;rintro e w1 ⟨rfl,g⟩;replace a:=a.aH g;refine aT ?_;refine aI (ai ao) (by(go_simp;try simp)) ?_;refine v3 ?_;refine aI _ (b4 24 73 5 (bj 27) _ aa ey aw d p _ c j _ (by show ae A _ _=_;rw[f]) aa hlt aa) ?_;refine ag ?_;refine aI _ (mc aa aa (k _ a.only 4 _ aa) aw) ?_;refine ag ?_;refine aI (ai az) (by(have h:=z.out;go_simp;try omega)) ?_;refine v2 ?_;iterate 7 refine ps ?_
      refine ag ?_;refine an ?_
      obtain rfl:b=false:=by
       cases b with
       |false=>rfl
       |true=>
        have h:=(n.1 aa).each m (cW l);have K:=E.out;omega
      go_upto_region 8 with fail;refine cy ?_;refine ag ?_;refine an ?_;go_wp2_with fail;go_ret;exact⟨aa,a.only⟩
     .have t:¬(m.data.length:Int)>300:=ad;have z:=hid t;have E:=hid C;clear C t;obtain⟨r,M⟩:=ex (vF s m);have G:aE (∀W,aC _ _ #[ar _,J _ _] W λe w'=>e=aB (J _ (r:Int))/\au W w'):=hid (λW=>by rw[<-M];exact avv m Q X s W hs (by have h:=D.2.1;omega) (by have h:=D.2.2;have K:=D.1;omega));have B:=hid M;clear M D wa;by_cases L:r>300
      .have u:(r:Int)>300:=ad;have H:=hid u;have U:=hid L;clear L u;go_upto_region 7 with fail;refine cy ?_;refine v2 ?_;refine aI _ (b4 24 73 5 _ _ aa ey aw _ _ _ _ _ _ (by show ae A _ _=_;rw[f]) aa hlt aa) ?_;refine aI _ (by(refine e5 73 _ aa d _ aa _ (k _ a.only) gi aa aw)) ?_;refine aR (q _) ?_;rintro e aU ⟨rfl,g⟩;replace a:=a.aH g;refine aT ?_;refine aI (ai ao) (by(go_simp;try simp)) ?_;refine v3 ?_;refine aI _ (b4 24 73 5 (bj 27) _ aa ey aw d p _ c j _ (by show ae A _ _=_;rw[f]) aa hlt aa) ?_;refine ag ?_;refine aI _ (mc aa aa (k _ a.only 4 _ aa) aw) ?_;refine ag ?_;refine aI (ai ao) (by(have h:=z.out;go_simp;try omega)) ?_;refine v4 ?_;refine aI _ (b4 24 73 5 (bj 36) _ aa ey aw d p _ c j _ (by show ae A _ _=_;rw[f]) aa hlt aa) ?_;refine aI _ (by(refine e5 73 _ aa d _ aa _ (k _ a.only) gi aa aw)) ?_;refine ag ?_;refine aR (G _) ?_;rintro e bI ⟨rfl,g⟩;replace a:=a.aH g;refine aT ?_;refine aI (ai az) (by(have h:=H.out;go_simp;try omega)) ?_;refine ag ?_;refine an ?_
       obtain rfl:b=false:=by
        cases b with
        |false=>rfl
        |true=>
         have h:=(n.1 aa).each m (cW l);have K:=U.out;have h5:=B.out;omega
       go_upto_region 8 with fail;refine cy ?_;refine ag ?_;refine an ?_;go_wp2_with fail;go_ret;exact⟨aa,a.only⟩
      .have u:¬(r:Int)>300:=ad;have H:=hid u;have U:=hid L;clear u;go_upto_region 7 with fail;refine cy ?_;refine v2 ?_;refine aI _ (b4 24 73 5 _ _ aa ey aw _ _ _ _ _ _ (by show ae A _ _=_;rw[f]) aa hlt aa) ?_;refine aI _ (by(refine e5 73 _ aa d _ aa _ (k _ a.only) gi aa aw)) ?_;refine aR (q _) ?_;rintro e b9 ⟨rfl,g⟩;replace a:=a.aH g;refine aT ?_;refine aI (ai ao) (by(go_simp;try simp)) ?_;refine v3 ?_;refine aI _ (b4 24 73 5 (bj 27) _ aa ey aw d p _ c j _ (by show ae A _ _=_;rw[f]) aa hlt aa) ?_;refine ag ?_;refine aI _ (mc aa aa (k _ a.only 4 _ aa) aw) ?_;refine ag ?_;refine aI (ai ao) (by(have h:=z.out;go_simp;try omega)) ?_;refine v4 ?_;refine aI _ (b4 24 73 5 (bj 36) _ aa ey aw d p _ c j _ (by show ae A _ _=_;rw[f]) aa hlt aa) ?_;refine aI _ (by(refine e5 73 _ aa d _ aa _ (k _ a.only) gi aa aw)) ?_;refine ag ?_;refine aR (G _) ?_;rintro e cE ⟨rfl,g⟩;replace a:=a.aH g;refine aT ?_;refine aI (ai ao) (by(have h:=H.out;go_simp;try omega)) ?_;refine ag ?_;refine an ?_;go_upto_region 9 with fail;refine cy ?_;refine v3 ?_;refine aI _ (b4 24 73 5 (bj 45) _ aa ey aw d p _ c j _ (by show ae A _ _=_;rw[f]) aa hlt aa) ?_;refine aI _ (by(refine e5 73 _ aa d _ aa _ (k _ a.only) gi aa aw)) ?_;refine ag ?_;refine aR (G _) ?_;rintro e cV ⟨rfl,g⟩;replace a:=a.aH g;refine aT ?_;refine pad _ _ ((zv+r:Nat):Int) ?_;refine ag ?_;refine an ?_;go_upto_region 6 with fail;refine cy ?_;refine ag ?_;refine pad _ 1 ((j+1:Nat):Int) ?_;refine ag ?_;refine an ?_;go_wp2_with fail;go_roundw;case rel=>exact⟨j+1,ad,by rw[ZB l,I,B];rfl,aa,by rw[ZB l,I,B];omega,hid (λi y hi O=>by rcases Nat.lt_succ_iff_lt_or_eq.1 hi with h|rfl;exact S i y h O;rw[l]at O;cases O;exact⟨F,by have:=E.out;omega,by have:=B.out;omega⟩),a⟩
       case measure=>(simp only[c',p3];omega)
    .have T:=hid (bne_iff_ne.2 o);go_upto_region 7 with fail;refine cy ?_;refine v2 ?_;refine aI _ (b4 24 73 5 _ _ aa ey aw _ _ _ _ _ _ (by show ae A _ _=_;rw[f]) aa hlt aa) ?_;refine aI _ (by(refine e5 73 _ aa d _ aa _ (k _ a.only) gi aa aw)) ?_;refine aR (q _) ?_;rintro e dJ ⟨rfl,g⟩;replace a:=a.aH g;refine aT ?_;refine dp T (ai az) ?_;refine ag ?_;iterate 7 refine ps ?_
     refine v2 ?_;iterate 7 refine ps ?_
     refine ag ?_;refine an ?_
     obtain rfl:b=false:=by
      cases b with
      |false=>rfl
      |true=>
       have h:=(n.1 aa).each m (cW l);have K:=F.out;omega
     go_upto_region 8 with fail;refine cy ?_;refine ag ?_;refine an ?_;go_wp2_with fail;go_ret;exact⟨aa,a.only⟩
   .have cf:¬(j:Int)<(ms.length:Int):=ad;obtain rfl:j=ms.length:=ad
    have HB:aE (decide ((zv:Int)<=300)=b):=hid (by have h0:=I.out;rw[ll]at h0;cases b with
     |true=>exact decide_eq_true (by have h:=(n.1 aa).sum;omega)
     |false=>exact decide_eq_false (λhle=>by have h:=n.2 ⟨ad,λm v=>by obtain⟨i,hi⟩:=p6.1 v;exact S i m (eM.1 hi).1 hi,ad⟩;cases h));go_upto_region 5 with fail;refine cy ?_;refine v3 ?_;refine a7 (ai ao) ?_;refine an ?_;go_upto_region 10 with fail;refine cy ?_;refine ag ?_;refine dp HB (ai b) ?_;refine ag ?_;refine an ?_;go_wp2_with fail;go_ret;exact⟨aa,a.only⟩
structure EC (bd o n:Int) (ms:List bO):Prop where
 dL:ms.length<=20
 ho:o<=300
 hn:n<=300
 short:ux ms=az
 ok:oM o n ms
 iK:bd<=300
 cnt:1<=bd->GA bd.toNat ms
def afN(bd o n)(g1 g2)A c ms w(k:cZ w A ms)(ho:∀m∈ms,pF m)b(hb:b=az↔EC bd o n ms):
 aC ax 42 #[J R bd,eN o n g1 g2 (ae A ms.length c)] w λe w'=>e=aB (ai b)/\au w w':=by
 obtain⟨v,hv⟩:∃v:Bool,v=az↔oM o n ms:=by
  by_cases h:oM o n ms;·exact⟨az,aG⟩
  .exact⟨ao,aG⟩
 have d:=hid hb;clear hb;by_cases C:20<ms.length
 .have hz0:(20:Int)<(ms.length:Int):=ad;clear k ho hv
  obtain rfl:b=false:=by
   cases b with
   |false=>rfl
   |true=>
    have h:=(d.1 aa).dL;omega
  go_enter BO,BQ;have a:=a8 w;go_step;refine ah ?_;refine bL a (ar (a' o n g1 g2 (ae A ms.length c))) (λi w1 a=>?_);refine ag ?_;refine an ?_;go_step;refine ah ?_;refine ag ?_;refine pl a 0 66 ?_ (hv:=fi);refine ag ?_;refine a7 (ai az) ?_;refine ag ?_;iterate 3 refine ps ?_
  refine v2 ?_;iterate 3 refine ps ?_
  refine v2 ?_;iterate 3 refine ps ?_
  refine v2 ?_;iterate 3 refine ps ?_
  refine v2 ?_;iterate 2 refine ps ?_
  refine ag ?_;refine an ?_;go_step;refine ah ?_;refine ag ?_;refine an ?_;go_wp2_with fail;go_ret;exact⟨aa,a.only⟩
 .have hz0:¬(20:Int)<(ms.length:Int):=ad;obtain⟨f,t⟩:=ex (ux ms);have j:aE (∀W,au w W->aC ax 74 #[eN o n g1 g2 (ae A ms.length c)] W λe w'=>e=aB (ai f)/\au W w'):=hid (λW g=>by rw[<-t];exact afD o n g1 g2 A c ms W (k.aH g) ad);have p:aE (∀W,au w W->aC ax 75 #[eN o n g1 g2 (ae A ms.length c)] W λe w'=>e=aB (ai v)/\au W w'):=hid (λW g=>afV o n g1 g2 A c ms W (k.aH g) ad ho v hv);have u:=hid hv;have r:=hid t;have z:=hid k;have B:=hid ho;clear k ho hv t;by_cases h1:300<o
  .skip
   obtain rfl:b=false:=by
    cases b with
    |false=>rfl
    |true=>
     have h:=(d.1 aa).ho;omega
   go_enter BO,BQ;have a:=a8 w;go_step;refine ah ?_;refine bL a (ar (a' o n g1 g2 (ae A ms.length c))) (λi Q a=>?_);refine ag ?_;refine an ?_;go_step;refine ah ?_;refine ag ?_;refine pl a 0 66 ?_ (hv:=fi);refine ag ?_;refine a7 (ai ao) ?_;refine v2 ?_;refine pl a 0 0 ?_ (hv:=kE);refine a7 (ai az) ?_;refine v2 ?_;iterate 3 refine ps ?_
   refine v2 ?_;iterate 3 refine ps ?_
   refine v2 ?_;iterate 3 refine ps ?_
   refine v2 ?_;iterate 2 refine ps ?_
   refine ag ?_;refine an ?_;go_step;refine ah ?_;refine ag ?_;refine an ?_;go_wp2_with fail;go_ret;exact⟨aa,a.only⟩
  .skip;by_cases D:300<n
   .skip
    obtain rfl:b=false:=by
     cases b with
     |false=>rfl
     |true=>
      have h:=(d.1 aa).hn;omega
    go_enter BO,BQ;have a:=a8 w;go_step;refine ah ?_;refine bL a (ar (a' o n g1 g2 (ae A ms.length c))) (λi T a=>?_);refine ag ?_;refine an ?_;go_step;refine ah ?_;refine ag ?_;refine pl a 0 66 ?_ (hv:=fi);refine ag ?_;refine a7 (ai ao) ?_;refine v2 ?_;refine pl a 0 0 ?_ (hv:=kE);refine a7 (ai ao) ?_;refine v3 ?_;refine pl a 0 1 ?_ (hv:=il);refine a7 (ai az) ?_;refine v2 ?_;iterate 3 refine ps ?_
    refine v2 ?_;iterate 3 refine ps ?_
    refine v2 ?_;iterate 2 refine ps ?_
    refine ag ?_;refine an ?_;go_step;refine ah ?_;refine ag ?_;refine an ?_;go_wp2_with fail;go_ret;exact⟨aa,a.only⟩
   .skip;cases f with
    |false=>
     obtain rfl:b=false:=by
      cases b with
      |false=>rfl
      |true=>
       have h:=(d.1 aa).short;rw[r]at h;cases h
     go_enter BO,BQ;have a:=a8 w;go_step;refine ah ?_;refine bL a (ar (a' o n g1 g2 (ae A ms.length c))) (λi U a=>?_);refine ag ?_;refine an ?_;go_step;refine ah ?_;refine ag ?_;refine pl a 0 66 ?_ (hv:=fi);refine ag ?_;refine a7 (ai ao) ?_;refine v2 ?_;refine pl a 0 0 ?_ (hv:=kE);refine a7 (ai ao) ?_;refine v3 ?_;refine pl a 0 1 ?_ (hv:=il);refine a7 (ai ao) ?_;refine v2 ?_;refine bh a 0 (a' o n g1 g2 (ae A ms.length c)) ?_ (hv:=(e4 _)) (hk:=by omega) (hz:=(by rw[bD];rfl));refine aR (j _ a.only) ?_;rintro e V ⟨rfl,g⟩;replace a:=a.aH g;refine aT ?_;refine pk (ai az) ?_;refine v2 ?_;iterate 3 refine ps ?_
     refine v2 ?_;iterate 2 refine ps ?_
     refine ag ?_;refine an ?_;go_step;refine ah ?_;refine ag ?_;refine an ?_;go_wp2_with fail;go_ret;exact⟨aa,a.only⟩
    |true=>
     cases v with
     |false=>
      obtain rfl:b=false:=by
       cases b with
       |false=>rfl
       |true=>
        have h:=(d.1 aa).ok;cases u.out.2 h
      go_enter BO,BQ;have a:=a8 w;go_step;refine ah ?_;refine bL a (ar (a' o n g1 g2 (ae A ms.length c))) (λi X a=>?_);refine ag ?_;refine an ?_;go_step;refine ah ?_;refine ag ?_;refine pl a 0 66 ?_ (hv:=fi);refine ag ?_;refine a7 (ai ao) ?_;refine v2 ?_;refine pl a 0 0 ?_ (hv:=kE);refine a7 (ai ao) ?_;refine v3 ?_;refine pl a 0 1 ?_ (hv:=il);refine a7 (ai ao) ?_;refine v2 ?_;refine bh a 0 (a' o n g1 g2 (ae A ms.length c)) ?_ (hv:=(e4 _)) (hk:=by omega) (hz:=(by rw[bD];rfl));refine aR (j _ a.only) ?_;rintro e Y ⟨rfl,g⟩;replace a:=a.aH g;refine aT ?_;refine pk (ai ao) ?_;refine v2 ?_;refine bh a 0 (a' o n g1 g2 (ae A ms.length c)) ?_ (hv:=(e4 _)) (hk:=by omega) (hz:=(by rw[bD];rfl));refine aR (p _ a.only) ?_;rintro e Z ⟨rfl,g⟩;replace a:=a.aH g;refine aT ?_;refine pk (ai az) ?_;refine v2 ?_;iterate 2 refine ps ?_
      refine ag ?_;refine an ?_;go_step;refine ah ?_;refine ag ?_;refine an ?_;go_wp2_with fail;go_ret;exact⟨aa,a.only⟩
     |true=>
      by_cases E:300<bd
      .skip
       obtain rfl:b=false:=by
        cases b with
        |false=>rfl
        |true=>
         have h:=(d.1 aa).iK;omega
       go_enter BO,BQ;have a:=a8 w;go_step;refine ah ?_;refine bL a (ar (a' o n g1 g2 (ae A ms.length c))) (λi eZ a=>?_);refine ag ?_;refine an ?_;go_step;refine ah ?_;refine ag ?_;refine pl a 0 66 ?_ (hv:=fi);refine ag ?_;refine a7 (ai ao) ?_;refine v2 ?_;refine pl a 0 0 ?_ (hv:=kE);refine a7 (ai ao) ?_;refine v3 ?_;refine pl a 0 1 ?_ (hv:=il);refine a7 (ai ao) ?_;refine v2 ?_;refine bh a 0 (a' o n g1 g2 (ae A ms.length c)) ?_ (hv:=(e4 _)) (hk:=by omega) (hz:=(by rw[bD];rfl));refine aR (j _ a.only) ?_;rintro e F ⟨rfl,g⟩;replace a:=a.aH g;refine aT ?_;refine pk (ai ao) ?_;refine v2 ?_;refine bh a 0 (a' o n g1 g2 (ae A ms.length c)) ?_ (hv:=(e4 _)) (hk:=by omega) (hz:=(by rw[bD];rfl));refine aR (p _ a.only) ?_;rintro e G ⟨rfl,g⟩;replace a:=a.aH g;refine aT ?_;refine pk (ai ao) ?_;refine v3 ?_;refine a7 (ai az) ?_;refine ag ?_;refine an ?_;go_step;refine ah ?_;refine ag ?_;refine an ?_;go_wp2_with fail;go_ret;exact⟨aa,a.only⟩
      .skip;have l:=u.1 aa;have iK:=l.bd;have x:aE (∀W,aC ax 96 #[ar #[J R 0,J R n]] W λe w'=>e=aB (ai az)/\au W w'):=hid (λW=>by have q:=N8 0 n W (by grind[cN]) (by grind[cN]);grind[lC]);clear iK;by_cases hb1:bd<1
       .obtain rfl:b=true:=d.2 ⟨ad,ad,ad,r,l,ad,λh=>ad⟩;clear l;go_enter BO,BQ;have a:=a8 w;go_step;refine ah ?_;refine bL a (ar (a' o n g1 g2 (ae A ms.length c))) (λi H a=>?_);refine ag ?_;refine an ?_;go_step;refine ah ?_;refine ag ?_;refine pl a 0 66 ?_ (hv:=fi);refine ag ?_;refine a7 (ai ao) ?_;refine v2 ?_;refine pl a 0 0 ?_ (hv:=kE);refine a7 (ai ao) ?_;refine v3 ?_;refine pl a 0 1 ?_ (hv:=il);refine a7 (ai ao) ?_;refine v2 ?_;refine bh a 0 (a' o n g1 g2 (ae A ms.length c)) ?_ (hv:=(e4 _)) (hk:=by omega) (hz:=(by rw[bD];rfl));refine aR (j _ a.only) ?_;rintro e I ⟨rfl,g⟩;replace a:=a.aH g;refine aT ?_;refine pk (ai ao) ?_;refine v2 ?_;refine bh a 0 (a' o n g1 g2 (ae A ms.length c)) ?_ (hv:=(e4 _)) (hk:=by omega) (hz:=(by rw[bD];rfl));refine aR (p _ a.only) ?_;rintro e K ⟨rfl,g⟩;replace a:=a.aH g;refine aT ?_;refine pk (ai ao) ?_;refine v3 ?_;refine a7 (ai ao) ?_;refine ag ?_;refine an ?_;go_step;refine ah ?_;refine ag ?_;refine pl a 0 1 ?_ (hv:=il);refine ag ?_;refine aR (x _) ?_;rintro e L ⟨rfl,g⟩;replace a:=a.aH g;refine aT ?_;refine v2 ?_;refine a7 (ai az) ?_;refine ag ?_;iterate 4 refine ps ?_
        refine v3 ?_;refine an ?_;go_wp2_with fail;go_ret;exact⟨aa,a.only⟩
       .obtain⟨s,rfl⟩:∃s:Nat,bd=(s:Int):=⟨bd.toNat,ad⟩;have y:aE (b=az↔GA s ms):=hid ⟨λh=>(d.1 h).cnt ad,λh=>d.2 ⟨ad,ad,ad,r,l,ad,λ_=>h⟩⟩;clear l;go_enter BO,BQ;have a:=a8 w;go_step;refine ah ?_;refine bL a (ar (a' o n g1 g2 (ae A ms.length c))) (λi M a=>?_);refine ag ?_;refine an ?_;go_step;refine ah ?_;refine ag ?_;refine pl a 0 66 ?_ (hv:=fi);refine ag ?_;refine a7 (ai ao) ?_;refine v2 ?_;refine pl a 0 0 ?_ (hv:=kE);refine a7 (ai ao) ?_;refine v3 ?_;refine pl a 0 1 ?_ (hv:=il);refine a7 (ai ao) ?_;refine v2 ?_;refine bh a 0 (a' o n g1 g2 (ae A ms.length c)) ?_ (hv:=(e4 _)) (hk:=by omega) (hz:=(by rw[bD];rfl));refine aR (j _ a.only) ?_;rintro e N ⟨rfl,g⟩;replace a:=a.aH g;refine aT ?_;refine pk (ai ao) ?_;refine v2 ?_;refine bh a 0 (a' o n g1 g2 (ae A ms.length c)) ?_ (hv:=(e4 _)) (hk:=by omega) (hz:=(by rw[bD];rfl));refine aR (p _ a.only) ?_;rintro e O ⟨rfl,g⟩;replace a:=a.aH g;refine aT ?_;refine pk (ai ao) ?_;refine v3 ?_;refine a7 (ai ao) ?_;refine ag ?_;refine an ?_;go_step;refine ah ?_;refine ag ?_;refine pl a 0 1 ?_ (hv:=il);refine ag ?_;refine aR (x _) ?_;rintro e P ⟨rfl,g⟩;replace a:=a.aH g;refine aT ?_;refine v2 ?_;refine a7 (ai ao) ?_;refine v3 ?_;refine pl a 0 66 ?_ (hv:=fi);refine aR (avV s A c ms _ ad (z.out.aH a.only) ad B b y) ?_;rintro e S ⟨rfl,g⟩;replace a:=a.aH g;refine aT ?_;refine v3 ?_;refine an ?_;go_wp2_with fail;go_ret;exact⟨aa,a.only⟩
end
section
open Go.RowKit Go.MapKept
attribute [local irreducible] wpList cM
def fz(a:List aO)(d:Array aO)(b:List aO):Array Value:=(a++(d.toList++b)).toArray
section
variable {a b:List aO} {d cr:Array aO} {k j m:Nat} {v:aO} {V:List aO}
theorem pM:(fz a d b).size=a.length+(d.size+b.length):=by simp[fz]
def mm(h:a[k]?=ab v):(fz a d b)[k]?=ab v:=by grind[fz]
def awL(h:d[k]?=ab v):(fz a d b)[a.length+k]?=ab v:=by grind[fz]
def fv(c:d.size=m)(h:b[k]?=ab v):(fz a d b)[a.length+(m+k)]?=ab v:=by grind[fz]
def o6:(fz a d b).extract a.length (a.length+d.size)=d:=by have h:=Mi (A:=a) (B:=d.toList) (C:=b) (L:=_) aa (k:=_) (m:=d.size) aa bc;rw[Array.toArray_toList]at h;exact h
def oz(h:cr.size<=d.size):a.length+cr.size<=(fz a d b).size:=by grind[pM]
def UF{n}(c:d.size=m)(h:j+n<=b.length):a.length+(m+j)+n<=(fz a d b).size:=by grind[pM]
def UE(c:a.all (·.oneCell')=az)(e:d.all (·.oneCell')=az)(hb:b.all (·.oneCell')=az):(fz a d b).all (·.oneCell')=true:=by grind[fz]
def awM(h:cr.size=d.size):lay (fz a d b) a.length cr.toList=fz a cr b:=by grind[fz,zp]
def UG(c:d.size=m)(h:j+V.length<=b.length):lay (fz a d b) (a.length+(m+j)) V=fz a d (b.take j++(V++(b.drop j).drop V.length)):=by subst c;unfold fz;have h1:(a++(d.toList++b))=(a++(d.toList++b.take j))++b.drop j:=bc;have e:a.length+(d.size+j)=(a++(d.toList++b.take j)).length:=aG;grind[zp]
end
structure Ly (ol:Nat) (o n sz bd mo:Int) (ms:List bO):Prop where
 old:ol<=300
 xT:EC bd o n ms
 fit:o=(ol:Int)
 bd:1<=bd
 sz:1<=sz/\sz<=1000
 mo:0<=mo/\mo<=100
def av0(y A)(ol b0 c)(o n sz bd mo)(g1 g2)ms w(q:cZ w A ms)(ho:∀m∈ms,pF m)b(hb:b=az↔Ly ol o n sz bd mo ms):
 aC ax 8 #[ar (fz [ae y ol b0] (a' o n g1 g2 (ae A ms.length c)) [J R sz,J R bd,J R mo])] w λe w'=>e=aB (J R (if b then 1 else 0))/\au w w':=by
 obtain⟨f,s⟩:∃f,f=az↔EC bd o n ms:=by
  by_cases h:EC bd o n ms;·exact⟨az,aG⟩
  .exact⟨ao,aG⟩
 obtain⟨v,hv⟩:∃v,v=az↔oM o n ms:=by
  by_cases h:oM o n ms;·exact⟨az,aG⟩
  .exact⟨ao,aG⟩
 have j:=hid (λW g=>afN bd o n g1 g2 A c ms W (q.aH g) ho f s);have d:=hid hb;have r:=hid s;have B:=hid hv;clear hb s hv;by_cases C:300<ol
 .have hz0:(300:Int)<(ol:Int):=ad;clear q ho
  obtain rfl:b=false:=by
   cases b with
   |false=>rfl
   |true=>
    have h:=d.1 aa;have l:=h.old;omega
  go_enter zT,zU;have a:=a8 w;go_step;refine ah ?_;refine bL a (ar _) (λi w1 a=>?_);refine ag ?_;refine an ?_;go_step;refine ah ?_;refine ag ?_;refine pl a 0 0 ?_ (hv:=mm (k:=0) aa);refine ag ?_;refine a7 (ai az) ?_;refine ag ?_;iterate 6 refine ps ?_
  refine v2 ?_;iterate 6 refine ps ?_
  refine v2 ?_;iterate 3 refine ps ?_
  refine v2 ?_;iterate 3 refine ps ?_
  refine v2 ?_;iterate 3 refine ps ?_
  refine v2 ?_;iterate 3 refine ps ?_
  refine v2 ?_;iterate 3 refine ps ?_
  refine ag ?_;refine an ?_;go_step;refine ah ?_;refine ag ?_;refine an ?_;go_wp2_with fail;go_ret;exact⟨aa,a.only⟩
 .have hz0:¬(300:Int)<(ol:Int):=ad;cases f with
  |false=>
   clear q ho
   obtain rfl:b=false:=by
    cases b with
    |false=>rfl
    |true=>
     have h:=d.1 aa;cases r.out.2 h.xT
   go_enter zT,zU;have a:=a8 w;go_step;refine ah ?_;refine bL a (ar _) (λi V a=>?_);refine ag ?_;refine an ?_;go_step;refine ah ?_;refine ag ?_;refine pl a 0 0 ?_ (hv:=mm (k:=0) aa);refine ag ?_;refine a7 (ai ao) ?_;refine v2 ?_;refine pl a 0 69 ?_ (hv:=fv (k:=1) bD aa);refine ag ?_;refine bh a 0 _ ?_ (hv:=o6) (hk:=oz (b7 _)) (hz:=by rw[bD];rfl);refine aR (j _ a.only) ?_;rintro e bI ⟨rfl,g⟩;replace a:=a.aH g;refine aT ?_;refine pk (ai az) ?_;refine v2 ?_;iterate 6 refine ps ?_
   refine v2 ?_;iterate 3 refine ps ?_
   refine v2 ?_;iterate 3 refine ps ?_
   refine v2 ?_;iterate 3 refine ps ?_
   refine v2 ?_;iterate 3 refine ps ?_
   refine v2 ?_;iterate 3 refine ps ?_
   refine ag ?_;refine an ?_;go_step;refine ah ?_;refine ag ?_;refine an ?_;go_wp2_with fail;go_ret;exact⟨aa,a.only⟩
  |true=>
   have D:=(r.1 aa).dL;obtain⟨t,x⟩:=ex ((ux ms&&v&&decide (o=(ol:Int))&&decide (n<=3000)));have p:aE (∀W,au w W->aC _ 25 _ W λe w'=>e=aB (ai t)/\au W w'):=hid (λW g=>by rw[<-x];exact avW y ol b0 o n g1 g2 A c ms W (q.aH g) ad ho v B);have z:=hid x;clear x q ho;cases t with
   |false=>
    obtain rfl:b=false:=by
     cases b with
     |false=>rfl
     |true=>
      have h:=d.1 aa;have l:=z.out;rw[h.xT.short,B.2 h.xT.ok,decide_eq_true h.fit,decide_eq_true (show n<=3000 from by have:=h.xT.hn;omega)]at l;cases l
    go_enter zT,zU;have a:=a8 w;go_step;refine ah ?_;refine bL a (ar _) (λi b9 a=>?_);refine ag ?_;refine an ?_;go_step;refine ah ?_;refine ag ?_;refine pl a 0 0 ?_ (hv:=mm (k:=0) aa);refine ag ?_;refine a7 (ai ao) ?_;refine v2 ?_;refine pl a 0 69 ?_ (hv:=fv (k:=1) bD aa);refine ag ?_;refine bh a 0 _ ?_ (hv:=o6) (hk:=oz (b7 _)) (hz:=by rw[bD];rfl);refine aR (j _ a.only) ?_;rintro e cE ⟨rfl,g⟩;replace a:=a.aH g;refine aT ?_;refine pk (ai ao) ?_;refine v3 ?_;refine pl a 0 0 ?_ (hv:=mm (k:=0) aa);refine ag ?_;refine bh a 0 _ ?_ (hv:=o6) (hk:=oz (b7 _)) (hz:=by rw[bD];rfl);refine aR (p _ a.only) ?_;rintro e cV ⟨rfl,g⟩;replace a:=a.aH g;refine aT ?_;refine pk (ai az) ?_;refine v2 ?_;iterate 3 refine ps ?_
    refine v2 ?_;iterate 3 refine ps ?_
    refine v2 ?_;iterate 3 refine ps ?_
    refine v2 ?_;iterate 3 refine ps ?_
    refine v2 ?_;iterate 3 refine ps ?_
    refine ag ?_;refine an ?_;go_step;refine ah ?_;refine ag ?_;refine an ?_;go_wp2_with fail;go_ret;exact⟨aa,a.only⟩
   |true=>
    by_cases E:bd<1
    .skip
     obtain rfl:b=false:=by
      cases b with
      |false=>rfl
      |true=>
       have h:=d.1 aa;have l:=h.bd;omega
     go_enter zT,zU;have a:=a8 w;go_step;refine ah ?_;refine bL a (ar _) (λi dJ a=>?_);refine ag ?_;refine an ?_;go_step;refine ah ?_;refine ag ?_;refine pl a 0 0 ?_ (hv:=mm (k:=0) aa);refine ag ?_;refine a7 (ai ao) ?_;refine v2 ?_;refine pl a 0 69 ?_ (hv:=fv (k:=1) bD aa);refine ag ?_;refine bh a 0 _ ?_ (hv:=o6) (hk:=oz (b7 _)) (hz:=by rw[bD];rfl);refine aR (j _ a.only) ?_;rintro e dB ⟨rfl,g⟩;replace a:=a.aH g;refine aT ?_;refine pk (ai ao) ?_;refine v3 ?_;refine pl a 0 0 ?_ (hv:=mm (k:=0) aa);refine ag ?_;refine bh a 0 _ ?_ (hv:=o6) (hk:=oz (b7 _)) (hz:=by rw[bD];rfl);refine aR (p _ a.only) ?_;rintro e eZ ⟨rfl,g⟩;replace a:=a.aH g;refine aT ?_;refine pk (ai ao) ?_;refine v3 ?_;refine pl a 0 69 ?_ (hv:=fv (k:=1) bD aa);refine a7 (ai az) ?_;refine v2 ?_;iterate 3 refine ps ?_
     refine v2 ?_;iterate 3 refine ps ?_
     refine v2 ?_;iterate 3 refine ps ?_
     refine v2 ?_;iterate 3 refine ps ?_
     refine ag ?_;refine an ?_;go_step;refine ah ?_;refine ag ?_;refine an ?_;go_wp2_with fail;go_ret;exact⟨aa,a.only⟩
    .skip;by_cases F:sz<1
     .skip
      obtain rfl:b=false:=by
       cases b with
       |false=>rfl
       |true=>
        have h:=d.1 aa;have l:=h.sz;omega
      go_enter zT,zU;have a:=a8 w;go_step;refine ah ?_;refine bL a (ar _) (λi K a=>?_);refine ag ?_;refine an ?_;go_step;refine ah ?_;refine ag ?_;refine pl a 0 0 ?_ (hv:=mm (k:=0) aa);refine ag ?_;refine a7 (ai ao) ?_;refine v2 ?_;refine pl a 0 69 ?_ (hv:=fv (k:=1) bD aa);refine ag ?_;refine bh a 0 _ ?_ (hv:=o6) (hk:=oz (b7 _)) (hz:=by rw[bD];rfl);refine aR (j _ a.only) ?_;rintro e L ⟨rfl,g⟩;replace a:=a.aH g;refine aT ?_;refine pk (ai ao) ?_;refine v3 ?_;refine pl a 0 0 ?_ (hv:=mm (k:=0) aa);refine ag ?_;refine bh a 0 _ ?_ (hv:=o6) (hk:=oz (b7 _)) (hz:=by rw[bD];rfl);refine aR (p _ a.only) ?_;rintro e M ⟨rfl,g⟩;replace a:=a.aH g;refine aT ?_;refine pk (ai ao) ?_;refine v3 ?_;refine pl a 0 69 ?_ (hv:=fv (k:=1) bD aa);refine a7 (ai ao) ?_;refine v3 ?_;refine pl a 0 68 ?_ (hv:=fv (k:=0) bD aa);refine a7 (ai az) ?_;refine v2 ?_;iterate 3 refine ps ?_
      refine v2 ?_;iterate 3 refine ps ?_
      refine v2 ?_;iterate 3 refine ps ?_
      refine ag ?_;refine an ?_;go_step;refine ah ?_;refine ag ?_;refine an ?_;go_wp2_with fail;go_ret;exact⟨aa,a.only⟩
     .skip;by_cases G:1000<sz
      .skip
       obtain rfl:b=false:=by
        cases b with
        |false=>rfl
        |true=>
         have h:=d.1 aa;have l:=h.sz;omega
       go_enter zT,zU;have a:=a8 w;go_step;refine ah ?_;refine bL a (ar _) (λi N a=>?_);refine ag ?_;refine an ?_;go_step;refine ah ?_;refine ag ?_;refine pl a 0 0 ?_ (hv:=mm (k:=0) aa);refine ag ?_;refine a7 (ai ao) ?_;refine v2 ?_;refine pl a 0 69 ?_ (hv:=fv (k:=1) bD aa);refine ag ?_;refine bh a 0 _ ?_ (hv:=o6) (hk:=oz (b7 _)) (hz:=by rw[bD];rfl);refine aR (j _ a.only) ?_;rintro e O ⟨rfl,g⟩;replace a:=a.aH g;refine aT ?_;refine pk (ai ao) ?_;refine v3 ?_;refine pl a 0 0 ?_ (hv:=mm (k:=0) aa);refine ag ?_;refine bh a 0 _ ?_ (hv:=o6) (hk:=oz (b7 _)) (hz:=by rw[bD];rfl);refine aR (p _ a.only) ?_;rintro e P ⟨rfl,g⟩;replace a:=a.aH g;refine aT ?_;refine pk (ai ao) ?_;refine v3 ?_;refine pl a 0 69 ?_ (hv:=fv (k:=1) bD aa);refine a7 (ai ao) ?_;refine v3 ?_;refine pl a 0 68 ?_ (hv:=fv (k:=0) bD aa);refine a7 (ai ao) ?_;refine v3 ?_;refine pl a 0 68 ?_ (hv:=fv (k:=0) bD aa);refine a7 (ai az) ?_;refine v2 ?_;iterate 3 refine ps ?_
       refine v2 ?_;iterate 3 refine ps ?_
       refine ag ?_;refine an ?_;go_step;refine ah ?_;refine ag ?_;refine an ?_;go_wp2_with fail;go_ret;exact⟨aa,a.only⟩
      .skip;by_cases H:mo<0
       .skip
        obtain rfl:b=false:=by
         cases b with
         |false=>rfl
         |true=>
          have h:=d.1 aa;have l:=h.mo;omega
        go_enter zT,zU;have a:=a8 w;go_step;refine ah ?_;refine bL a (ar _) (λi Q a=>?_);refine ag ?_;refine an ?_;go_step;refine ah ?_;refine ag ?_;refine pl a 0 0 ?_ (hv:=mm (k:=0) aa);refine ag ?_;refine a7 (ai ao) ?_;refine v2 ?_;refine pl a 0 69 ?_ (hv:=fv (k:=1) bD aa);refine ag ?_;refine bh a 0 _ ?_ (hv:=o6) (hk:=oz (b7 _)) (hz:=by rw[bD];rfl);refine aR (j _ a.only) ?_;rintro e S ⟨rfl,g⟩;replace a:=a.aH g;refine aT ?_;refine pk (ai ao) ?_;refine v3 ?_;refine pl a 0 0 ?_ (hv:=mm (k:=0) aa);refine ag ?_;refine bh a 0 _ ?_ (hv:=o6) (hk:=oz (b7 _)) (hz:=by rw[bD];rfl);refine aR (p _ a.only) ?_;rintro e T ⟨rfl,g⟩;replace a:=a.aH g;refine aT ?_;refine pk (ai ao) ?_;refine v3 ?_;refine pl a 0 69 ?_ (hv:=fv (k:=1) bD aa);refine a7 (ai ao) ?_;refine v3 ?_;refine pl a 0 68 ?_ (hv:=fv (k:=0) bD aa);refine a7 (ai ao) ?_;refine v3 ?_;refine pl a 0 68 ?_ (hv:=fv (k:=0) bD aa);refine a7 (ai ao) ?_;refine v3 ?_;refine pl a 0 70 ?_ (hv:=fv (k:=2) bD aa);refine a7 (ai az) ?_;refine v2 ?_;iterate 3 refine ps ?_
        refine ag ?_;refine an ?_;go_step;refine ah ?_;refine ag ?_;refine an ?_;go_wp2_with fail;go_ret;exact⟨aa,a.only⟩
       .skip;by_cases I:100<mo
        .skip
         obtain rfl:b=false:=by
          cases b with
          |false=>rfl
          |true=>
           have h:=d.1 aa;have l:=h.mo;omega
         go_enter zT,zU;have a:=a8 w;go_step;refine ah ?_;refine bL a (ar _) (λi U a=>?_);refine ag ?_;refine an ?_;go_step;refine ah ?_;refine ag ?_;refine pl a 0 0 ?_ (hv:=mm (k:=0) aa);refine ag ?_;refine a7 (ai ao) ?_;refine v2 ?_;refine pl a 0 69 ?_ (hv:=fv (k:=1) bD aa);refine ag ?_;refine bh a 0 _ ?_ (hv:=o6) (hk:=oz (b7 _)) (hz:=by rw[bD];rfl);refine aR (j _ a.only) ?_;rintro e X ⟨rfl,g⟩;replace a:=a.aH g;refine aT ?_;refine pk (ai ao) ?_;refine v3 ?_;refine pl a 0 0 ?_ (hv:=mm (k:=0) aa);refine ag ?_;refine bh a 0 _ ?_ (hv:=o6) (hk:=oz (b7 _)) (hz:=by rw[bD];rfl);refine aR (p _ a.only) ?_;rintro e Y ⟨rfl,g⟩;replace a:=a.aH g;refine aT ?_;refine pk (ai ao) ?_;refine v3 ?_;refine pl a 0 69 ?_ (hv:=fv (k:=1) bD aa);refine a7 (ai ao) ?_;refine v3 ?_;refine pl a 0 68 ?_ (hv:=fv (k:=0) bD aa);refine a7 (ai ao) ?_;refine v3 ?_;refine pl a 0 68 ?_ (hv:=fv (k:=0) bD aa);refine a7 (ai ao) ?_;refine v3 ?_;refine pl a 0 70 ?_ (hv:=fv (k:=2) bD aa);refine a7 (ai ao) ?_;refine v3 ?_;refine pl a 0 70 ?_ (hv:=fv (k:=2) bD aa);refine a7 (ai az) ?_;refine ag ?_;refine an ?_;go_step;refine ah ?_;refine ag ?_;refine an ?_;go_wp2_with fail;go_ret;exact⟨aa,a.only⟩
        .skip;have u:=z.out;simp at u;obtain rfl:=d.2 ⟨ad,r.1 aa,u.1.2,ad,ad,ad⟩;clear u;go_enter zT,zU;have a:=a8 w;go_step;refine ah ?_;refine bL a (ar _) (λi Z a=>?_);refine ag ?_;refine an ?_;go_step;refine ah ?_;refine ag ?_;refine pl a 0 0 ?_ (hv:=mm (k:=0) aa);refine ag ?_;refine a7 (ai ao) ?_;refine v2 ?_;refine pl a 0 69 ?_ (hv:=fv (k:=1) bD aa);refine ag ?_;refine bh a 0 _ ?_ (hv:=o6) (hk:=oz (b7 _)) (hz:=by rw[bD];rfl);refine aR (j _ a.only) ?_;rintro e DK ⟨rfl,g⟩;replace a:=a.aH g;refine aT ?_;refine pk (ai ao) ?_;refine v3 ?_;refine pl a 0 0 ?_ (hv:=mm (k:=0) aa);refine ag ?_;refine bh a 0 _ ?_ (hv:=o6) (hk:=oz (b7 _)) (hz:=by rw[bD];rfl);refine aR (p _ a.only) ?_;rintro e JM ⟨rfl,g⟩;replace a:=a.aH g;refine aT ?_;refine pk (ai ao) ?_;refine v3 ?_;refine pl a 0 69 ?_ (hv:=fv (k:=1) bD aa);refine a7 (ai ao) ?_;refine v3 ?_;refine pl a 0 68 ?_ (hv:=fv (k:=0) bD aa);refine a7 (ai ao) ?_;refine v3 ?_;refine pl a 0 68 ?_ (hv:=fv (k:=0) bD aa);refine a7 (ai ao) ?_;refine v3 ?_;refine pl a 0 70 ?_ (hv:=fv (k:=2) bD aa);refine a7 (ai ao) ?_;refine v3 ?_;refine pl a 0 70 ?_ (hv:=fv (k:=2) bD aa);refine a7 (ai ao) ?_;refine ag ?_;refine an ?_;go_step;refine ah ?_;refine ag ?_;refine an ?_;go_wp2_with fail;go_ret;exact⟨aa,a.only⟩
end
section
open Go.RowKit Go.MapKept
attribute [local irreducible] wpList cM
def axa{size bound r d}(h:1<=size)(hr:(bound+44)%size=r)(f:(bound+44)/size=d):eo size bound=if r=0 then d else d+1:=by
 have h1:=Q6 (bound+44) size;rw[hr,f]at h1;have c:=Ho (bound+44) h;rw[hr]at c;unfold eo;by_cases b:r=0
 .rw[if_pos b];have g:0<d:=Nat.pos_of_ne_zero (λe=>aG)
  have a:(bound+43)/size=d -1:=by obtain⟨e,rfl⟩:∃e,d=e+1:=⟨d -1,ad⟩;rw[Nat.mul_succ]at h1;rw[show bound+43=size*e+(size -1) by omega,amb h,Lu ad];rfl
  rw[a];omega
 .rw[if_neg b]
  have a:(bound+43)/size=d:=by rw[show bound+43=size*d+(r -1) by omega,amb h,Lu ad,Nat.add_zero]
  rw[a]
def awj(size bound:Nat)w(h1:1<=size)(j:size<=1048576)(k:1<=bound)(l:bound<=65536):
 aC ax 111 #[J R (size:Int),J R (bound:Int)] w λe w'=>e=aB (J R ((eo size bound:Nat):Int))/\au w w':=by
 obtain⟨r,hr⟩:=ex ((bound+44)%size);obtain⟨d,a⟩:=ex ((bound+44)/size);have m:d<=bound+44:=by rw[<-a];exact vy _ _
 have n:r<size:=by rw[<-hr];exact Ho _ h1
 have h:=axa h1 hr a;rw[h];have f:=hid hr;have c:=hid a;clear hr a h;by_cases g:r=0;·subst g;rw[if_pos aa];go_enter Tryz.func111,Tryz.ntmps111;have b:=a8 w;go_step;refine ah ?_;refine cA ?_;refine a7 (ai ao) ?_;refine v2 ?_;refine a7 (ai ao) ?_;refine v3 ?_;refine a7 (ai ao) ?_;refine cA ?_;refine pad (bound:Int) 44 ((bound+44:Nat):Int) ?_;refine kf ?_;refine aI (J R (0:Int)) (Ay 3 (bj 18) (bj 19) 3 aa (bound+44) size 0 aa aa ad f.out ad) ?_;refine a7 (ai az) ?_;refine gW ?_;refine aI (J R (d:Int)) (te 3 (bj 22) (bj 23) 3 aa (bound+44) size d aa aa ad c.out ad) ?_;refine bU ?_;go_wp2_with fail;go_ret;exact⟨aa,b.only⟩
 .rw[if_neg g];have i:¬(r:Int)=0:=ad;go_enter Tryz.func111,Tryz.ntmps111;have b:=a8 w;go_step;refine ah ?_;refine cA ?_;refine a7 (ai ao) ?_;refine v2 ?_;refine a7 (ai ao) ?_;refine v3 ?_;refine a7 (ai ao) ?_;refine cA ?_;refine pad (bound:Int) 44 ((bound+44:Nat):Int) ?_;refine kf ?_;refine aI (J R (r:Int)) (Ay 3 (bj 18) (bj 19) 3 aa (bound+44) size r aa aa ad f.out ad) ?_;refine a7 (ai ao) ?_;refine gW ?_;refine aI (J R (d:Int)) (te 3 (bj 25) (bj 26) 3 aa (bound+44) size d aa aa ad c.out ad) ?_;refine pad _ 1 ((d+1:Nat):Int) ?_;refine bU ?_;go_wp2_with fail;go_ret;exact⟨aa,b.only⟩
def awg(size N:Nat)w(h1:1<=size)(m:size<=1048576)(n:N<=1048576):
 aC ax 113 #[J R (size:Int),ar #[J R 0,J R (N:Int)]] w λe w'=>e=aB (ar #[J R 0,J R (((dV size 0 N).2:Nat):Int)])/\au w w':=by
 have f:=hid (λW=>by have q:=N8 0 (N:Int) W (by unfold cN;omega) (by unfold cN;omega);rw[show lC (0,(N:Int))=az from by unfold lC;simp;omega]at q;exact q);by_cases c:N=0;·subst c;go_enter Tryz.func113,Tryz.ntmps113;have a:=a8 w;go_step;refine ah ?_;refine bL (cs:=#[J _ 0,J _ _]) a _ (λh w1 a=>?_);refine bn a #[J _ 0,J _ 0] (λi p a=>?_);refine b5 ?_;refine a7 (ai ao) ?_;refine ag ?_;refine bh a 1 #[J R 0,J R ((0:Nat):Int)] ?_;refine bH (f _) a (λr a=>?_);refine pk (ai ao) ?_;refine v3 ?_;refine pl a 1 1 ?_;refine aI (ai az) (by(go_simp;try simp)) ?_;refine ed ?_;refine pk (ar #[J R 0,J R 0]) ?_;refine bb a 0 (ar _) (λs a=>?_);refine an ?_;go_wp2_with fail;refine c8 (v:=_) (gH aa _ _ _ _ _ _ _ aa (a.aV 0) yg aa aw) aa (⟨aa,a.only⟩)
 .have l:¬(N:Int)=0:=ad;obtain⟨d,b⟩:=ex ((N -1)/size);have o:d<=N:=by rw[<-b];exact eb (vy _ _) (Nat.sub_le _ _)
  have g:(dV size 0 N).2=d+1:=by unfold dV;rw[if_neg c];simp[b]
  rw[g];have j:=hid b;have k:aE (0/size=0):=hid (amd _);clear b g c;go_enter Tryz.func113,Tryz.ntmps113;have a:=a8 w;go_step;refine ah ?_;refine bL (cs:=#[J _ 0,J _ _]) a _ (λh t a=>?_);refine bn a #[J _ 0,J _ 0] (λi u a=>?_);refine b5 ?_;refine a7 (ai ao) ?_;refine ag ?_;refine bh a 1 #[J R 0,J R (N:Int)] ?_;refine bH (f _) a (λx a=>?_);refine pk (ai ao) ?_;refine v3 ?_;refine pl a 1 1 ?_;refine a7 (ai ao) ?_;refine cA ?_;refine pl a 1 0 ?_;refine ag ?_;refine aI (J _ (0:Int)) (te 3 _ _ 3 aa 0 _ 0 aa aa ad k ad) ?_;refine kf ?_;refine pl a 1 0 ?_;refine ag ?_;refine pl a 1 1 ?_;refine pad 0 _ (N:Int) ?_;refine j0 _ 1 ((N -1:Nat):Int) ?_;refine ag ?_;refine aI _ (te 3 _ _ 3 aa _ size d aa aa ad j ad) ?_;refine ag ?_;refine j0 _ 0 (d:Int) ?_;refine pad _ 1 ((d+1:Nat):Int) ?_;refine ag ?_;refine bb a 0 (ar #[J R _,J _ ((d+1:Nat):Int)]) (λy a=>?_);refine an ?_;go_wp2_with fail;refine c8 (v:=_) (gH aa _ _ _ _ _ _ _ aa (a.aV 0) yg aa aw) aa (⟨aa,a.only⟩)
def avX(size bound o n:Nat)(h1:1<=size/\size<=1048576)(d:1<=bound/\bound<=65536)(y:o<=1048576)(A:n<=1048576)w:
 aC ax 47 #[J R (size:Int),J R (bound:Int),J R (o:Int),J R (n:Int)] w λe w'=>e=aB (bo #[ar (mF size bound (max o n)),J R 0])/\au w w':=by
 obtain⟨lA,f⟩:=ex (eo size bound);have hsp:1<=lA:=by rw[<-f];exact vA (cB _)
 have E:lA<=bound+44:=by grind[agi]
 have r:aE (∀W,aC _ _ _ W λe w'=>e=aB (J _ (lA:Int))/\au W w'):=hid (λW=>by rw[<-f];exact awj _ _ W h1.1 h1.2 d.1 d.2);obtain⟨b,i⟩:=ex (max o n);have s:b<=1048576:=ad;have D:o<=b:=ad;have C:n<=b:=ad;obtain⟨c,g⟩:=ex ((dV size 0 b).2);have B:c<=b+1:=by grind[af1]
 have q:aE (∀W,aC _ _ _ W λe w'=>e=aB (ar #[J _ 0,J _ (c:Int)])/\au W w'):=hid (λW=>by rw[<-g];exact awg _ b W h1.1 h1.2 s);have p:aE (∀W,aC _ _ _ W λe w'=>e=aB _/\au W w'):=hid (λW=>(FT W).mono λ_ _ ⟨h1,d⟩=>⟨h1,d▸av.refl _ _⟩);have hlc:mF size bound b=#[J R (size:Int),J R (bound:Int),J R 0,J R (b:Int),J R (c:Int),J R ((2*lA:Nat):Int),J R ((c+2*lA:Nat):Int)]:=by rw[mF,gq,g,f]
 rw[i,hlc];obtain⟨l,t⟩:∃z,min o n=z:=⟨_,aa⟩;have j:min (o:Int) (n:Int)=(l:Int):=ad;have k:max (o:Int) (n:Int)=(b:Int):=ad;have m:=hid j;have h:=hid k;clear f g hlc i t j k;go_enter func47,ntmps47;have a:=a8 w;go_step;refine ah ?_;refine bn a #[J _ 0,J _ 0,J _ 0,J _ 0,J _ 0,J _ 0,J _ 0] (λx w1 a=>?_);refine kf ?_;refine bH (r.out _) a (λF a=>?_);refine Bd 2 _ ((2*lA:Nat):Int) ?_;refine cA ?_;refine a7 (ai ao) ?_;refine gW ?_;refine dp m (J R (l:Int)) ?_;refine a7 (ai ao) ?_;refine v3 ?_;refine dp h (J R (b:Int)) ?_;refine bH (p _) a (λG a=>?_);refine a7 (ai ao) ?_;refine kf ?_;refine dp h (J R (b:Int)) ?_;refine pk (ar #[J R 0,J R (b:Int)]) ?_;refine bn a #[J _ 0,J _ 0] (λu H a=>?_);refine bb a 0 (ar _) (λI a=>?_);refine b5 ?_;refine bh a 0 #[J R 0,J R (b:Int)] ?_;refine bH (q _) a (λK a=>?_);refine pk (J R (c:Int)) ?_;refine kf ?_;refine bh a 0 #[J R 0,J R (b:Int)] ?_;refine v2 ?_;refine pk (ar #[J R (c:Int),J R ((2*lA:Nat):Int)]) ?_;refine v2 ?_;refine pad _ _ ((c+2*lA:Nat):Int) ?_;refine pk (ar #[J R (size:Int),J R (bound:Int),J R 0,J R (b:Int),J R (c:Int),J R ((2*lA:Nat):Int),J R ((c+2*lA:Nat):Int)]) ?_;refine bb a 1 (ar _) (λL a=>?_);refine bU ?_;go_wp2_with fail;refine c8 (v:=_) (ml aa aa aa (a.aV 1) aw aw) aa (⟨aa,a.only⟩)
end
section
open Go.RowKit Go.MapKept
attribute [local irreducible] wpList cM
def awd(size cnt n:Nat)w(h1:1<=size)(f:1<=cnt)(g:size*cnt<=1048576)(h:n<=size*cnt):
 aC ax 118 #[J R (size:Int),J R (cnt:Int),J R (n:Int)] w λe w'=>e=aB (ai az)/\au w w':=by
 obtain⟨p,a⟩:=ex (size*cnt);have c:(size:Int)*(cnt:Int)=(p:Int):=ad;have i:size<=p:=by rw[<-a];exact Nat.le_mul_of_pos_right _ f
 have hc:cnt<=p:=by rw[<-a];exact Cj _ h1
 rw[a]at g h;have b:=hid c;clear a c;go_enter func118,ntmps118;have d:=a8 w;go_step;refine ah ?_;refine cA ?_;refine a7 (ai az) ?_;refine v2 ?_;refine a7 (ai az) ?_;refine v3 ?_;refine a7 (ai az) ?_;refine v3 ?_;refine a7 (ai az) ?_;refine v4 ?_;refine aI _ (ln 3 _ _ 3 aa _ _ _ aa aa b ad ad) ?_;refine a7 (ai az) ?_;refine v5 ?_;refine aI _ (ln 3 _ _ 3 aa _ _ _ aa aa b ad ad) ?_;refine a7 (ai az) ?_;refine eg ?_;go_wp2_with fail;go_ret;exact⟨aa,d.only⟩
def Hq(t:bu)(B n:Nat):Prop:=∃(A:Option Addr) (c:Nat),∀W,t.p W->W.cell? ⟨B,2,af⟩=ab (ae A n c)
def R0(w:World)(B:Nat):Nat:=match w.cell? ⟨B,2,af⟩with
 |some (ae _ n _)=>n
 |_=>0
def Z4{w B n c A}(h:w.cell? ⟨B,2,af⟩=ab (ae A n c)):R0 w B=n:=by grind[R0]
def av3 A(c size cnt:Nat)bs w(q:size*cnt<=1048576)(r:bs.length<=size*cnt)(hb:bX w A bs):
 aC ax 119 #[J R (size:Int),J R (cnt:Int),ae A bs.length c] w λe w'=>∃B,e=aB (ay (ab ⟨B,0,af⟩))/\∃t,cj w w' t/\Hq t B (size*cnt):=by
 obtain⟨p,d⟩:=ex (size*cnt);have f:(size:Int)*(cnt:Int)=(p:Int):=ad;rw[d]at q r⊢;have b:=hid f;have j:=hid hb;clear d f hb;go_enter func119,ntmps119;have a:=a8 w;go_step;refine ah ?_;refine kf ?_;refine pk (ar #[J R (size:Int),J R (cnt:Int),ae af 0 0,ae af 0 0,J R (-1),J .u64 0,ai ao,J R 0,J R 0,J R 0,J R 0,J R 0]) ?_;refine bL (cs:=#[J _ _,J _ _,ae _ 0 0,ae _ 0 0,J R (-1),J .u64 0,ai _,J _ 0,J _ 0,J _ 0,J _ 0,J _ 0]) a _ (λcG w1 a=>?_);refine cA ?_;refine e' a #[] 5 (λC G a=>?_);refine ag ?_;have l:ak _ _ _ [bg _ 0 0 5 1 [],aj cG _ 56]:=a.u1 0 0 0 1 [] aa (b7 _) (cB _) aa;refine kd (m:=_) l 0 1 (bX.cells (j.out.aH a.only)) LS (λy E H a=>?_) (hby:=by omega);rw[js]at a⊢;rw[List.nil_append]at a;refine v2 ?_;refine bb a 1 (ae _ _ _) (λI a=>?_);refine an ?_;have k:=a.pk [0,1];go_wp2_with fail;go_loopw [] (λwr=>∃(n:Nat) (aL:Option Addr) (c2:Nat) (bV:List Int),n<=p/\bV.length=n/\ak w (λ_=>False) wr [bg aL n c2 5 1 (bV.map a6),aj cG #[J R (size:Int),J R (cnt:Int),ae aL n c2,ae af 0 0,J R (-1),J .u64 0,ai ao,J R 0,J R 0,J R 0,J R 0,J R 0] 56]) (λwr=>p -R0 wr cG);case atStart=>grind
 case round=>
  clear a k;obtain⟨n,aL,c2,bV,hn,i,a⟩:=hrel;have o:=hid i;clear i;have v:=aX.cell (a.aV 1) 2 aa;by_cases hlt:n<p
  .have s:(n:Int)<(p:Int):=ad;go_step;refine ah ?_;refine v3 ?_;refine pl a 1 2 ?_;refine v3 ?_;refine aI _ (ln 3 _ _ 3 aa _ _ _ aa aa b ad ad) ?_;refine a7 (ai az) ?_;refine o8 ?_;refine pl a 1 2 ?_;refine e' a #[J .u8 0] 5 (λD K a=>?_);refine kd (m:=1) a 1 1 (aX.cellsOf (m:=1) (a.aV 0) aa) (by intro u g;simp at g;subst g;rfl) (λz F L a=>?_) (hby:=by omega);refine v2 ?_;refine bb a 2 (ae _ _ _) (λM a=>?_);refine an ?_;have x:=aX.cell (a.aV 2) 2 aa;go_wp2_with fail;go_roundw;case rel=>exact⟨n+1,_,_,bV++[0],ad,by rw[db,o];rfl,by rw[List.map_append];exact a.pick [1,2]⟩
   case measure=>(rw[Z4 v,Z4 x];omega)
  .have s:¬(n:Int)<(p:Int):=ad;obtain rfl:n=p:=ad;go_step;refine ah ?_;refine v3 ?_;refine pl a 1 2 ?_;refine v3 ?_;refine aI _ (ln 3 _ _ 3 aa _ _ _ aa aa b ad ad) ?_;refine a7 (ai ao) ?_;refine ah ?_;refine eg ?_;go_wp2_with fail;go_ret;exact⟨cG,aa,both _ _,(a.pick (l':=[bg aL n c2 5 1 _,aj cG _ 56]) [0,1]).star.fresh 0,⟨_,_,λW h=>aX.cell h.2.1 2 aa⟩⟩
def awb(size bound N ex)A c b w(h1:1<=size)(hc:size*(gq size bound N+ex)<=1048576)(hb1:b.length<=N)(hb:bX w A b):
 aC ax 49 #[ar (mF size bound N),J R (ex:Int),ae A b.length c] w λe w'=>∃B,e=aB (bo #[ay (ab ⟨B,0,af⟩),J R 0])/\∃t,cj w w' t/\Hq t B (size*(gq size bound N+ex)):=by
 obtain⟨a,f⟩:∃z,gq size bound N=z:=⟨_,aa⟩;rw[f]at hc⊢;have hlc:mF size bound N=#[J R (size:Int),J R (bound:Int),J R 0,J R (N:Int),J R ((dV size 0 N).2:Int),J R ((2*eo size bound:Nat):Int),J R (a:Int)]:=by rw[mF,f]
 rw[hlc];have m:1<=a:=by rw[<-f,gq];have:1<=eo size bound:=vA (cB _);omega
 have hle:a+ex<=size*(a+ex):=Cj _ h1;have hbl:b.length<=size*(a+ex):=eb hb1 (by rw[<-f,gq];exact Dk h1);have i:aE (∀W,aC ax 118 #[J R (size:Int),J R ((a+ex:Nat):Int),J R (b.length:Int)] W λe w'=>e=aB (ai az)/\au W w'):=hid (λW=>awd size (a+ex) b.length W h1 ad hc hbl);have h:aE (∀W,au w W->aC ax 119 #[J R (size:Int),J R ((a+ex:Nat):Int),ae A b.length c] W λe w'=>∃B,e=aB (ay (ab ⟨B,0,af⟩))/\∃t,cj W w' t/\Hq t B (size*(a+ex))):=hid (λW g=>av3 A c size (a+ex) b W hc hbl (hb.aH g));clear hb f hlc;go_enter func49,ntmps49;have d:=a8 w;go_step;refine ah ?_;refine bL (cs:=#[J R (size:Int),J R (bound:Int),J R 0,J R (N:Int),J R ((dV size 0 N).2:Int),J R ((2*eo size bound:Nat):Int),J R (a:Int)]) d (ar #[J R (size:Int),J R (bound:Int),J R 0,J R (N:Int),J R ((dV size 0 N).2:Int),J R ((2*eo size bound:Nat):Int),J R (a:Int)]) (λl w1 d=>?_);iterate 2 refine ag ?_
 refine an ?_;go_step;refine ah ?_;refine ag ?_;refine aI (ai ao) (by(go_simp;try omega)) ?_;iterate 5 refine ag ?_
 refine pl d 0 3 ?_;refine aI (ai ao) (by(go_simp;try omega)) ?_;refine ag ?_;refine an ?_;go_step;refine ah ?_;refine ag ?_;refine aI (ai ao) (by(go_simp;try omega)) ?_;iterate 2 refine ag ?_
 refine pl d 0 0 ?_;refine ag ?_;refine pl d 0 6 ?_;refine ag ?_;refine pad (a:Int) (ex:Int) ((a+ex:Nat):Int) ?_;iterate 2 refine ag ?_
 refine aR (i _) ?_;rintro e n ⟨rfl,g⟩;replace d:=d.aH g;refine aT ?_;refine aI (ai ao) (by(show _=_;kernel_rfl)) ?_;refine ag ?_;refine an ?_;go_step;refine ah ?_;refine ag ?_;refine pl d 0 0 ?_;refine ag ?_;refine pl d 0 6 ?_;refine ag ?_;refine pad (a:Int) (ex:Int) ((a+ex:Nat):Int) ?_;refine ag ?_;refine aR (h _ d.only) ?_;rintro e o ⟨B,rfl,t,j,k⟩;replace d:=d.new _ j;refine aT ?_;iterate 2 refine ag ?_
 refine an ?_;go_wp2_with fail;go_ret2;exact⟨B,aa,t,d.fresh 0,k⟩
end
section
open Go.RowKit Go.MapKept
attribute [local irreducible] wpList cM
structure YB (old:List Int) (ms:List bO) (n:Nat) (S:List jS) (o od:List Int) (rs:List bO):Prop where
 rJ:r6 old.length n ms
 RP:∀i:Nat,i<n->∃m∈ms,hasB m (i:Int)=az
 iH:BH old ms S o od rs
 agW:r6 old.length n (fu ms od++rs)
 pre:∀(i j:Nat) (m y:bO),j<i->(fu ms od++rs)[i]?=ab m->(fu ms od++rs)[j]?=ab y->m.k=1->∀off,m.fr<=off->off<m.fr+m.n->hasB y off=ao
def aub{m}(h:gJ m):pF m:=by
 have h1:=h.cm;have e:=h.len;by_cases hk:m.k=1;·obtain⟨a,b,c,d⟩:=h.copy hk;exact⟨by grind[cN],by grind[cN],by grind[cN],by grind[cN],ad⟩
 .obtain⟨a,b,c,d⟩:=h.lit hk;exact⟨by grind[cN],by grind[cN],by grind[cN],by grind[cN],ad⟩
def TF{size bd N mo}(h1:1<=size)(a:size<=1000)(d:bd<=300)(e:N<=300)(b:mo<=100):size*(gq size bd N+mo)<=1048576:=by
 have bF:size*(dV size 0 N).2<=N+size:=by
  unfold dV;split;·omega
  .have:=amc (0+N -1) size;grind[amd]
 have cq:size*eo size bd<=bd+43+size:=by unfold eo;have:=amc (bd+43) size;rw[ama,Nat.mul_one];omega
 have c:=Nat.mul_le_mul a b;grind[gq,ama]
def ato(i A)(b0 c n sz bd mo:Nat)(g1 g2)old ms S(o od)rs w(hold:bX w i old)(hc0:old.length<=b0)(M:cZ w A ms)(hX:∀m∈ms,m.data.length<=140737488355328)(s:YB old ms n S o od rs)(gU:old.length<=300)(hn:n<=300)(iK:1<=bd/\bd<=300)(h1:1<=sz)(h2:sz<=1000)(tp:mo<=100)(hsm:EC (bd:Int) (old.length:Int) (n:Int) (fu ms od++rs)):
 aC ax 10 #[ar (fz [ae i old.length b0] (a' (old.length:Int) (n:Int) g1 g2 (ae A ms.length c)) [J R (sz:Int),J R (bd:Int),J R (mo:Int)])] w λe w'=>∃cK cI l dz B gY q r,e=aB (bo #[ar (fz [] (a' (old.length:Int) (n:Int) cK cI (ae l (fu ms od++rs).length dz)) [dc B,ay (ab ⟨gY,0,af⟩),J R (sz:Int),J R (bd:Int),J R 0,J R ((max old.length n:Nat):Int),J R ((dV sz 0 (max old.length n)).2:Int),J R ((2*eo sz bd:Nat):Int),J R ((gq sz bd (max old.length n):Nat):Int),ae q n r]),ai az])/\∃z t2 m,ie z l dz (fu ms od++rs)/\Hq t2 gY (sz*(gq sz bd (max old.length n)+mo))/\cj w w' (bY [z,aN B m (mI sz (gq sz bd (max old.length n)+mo) old),t2]):=by
 have wa:∀m∈ms,gJ m:=λm y=>(s.rJ.fits m y).1;have G:∀m∈fu ms od++rs,gJ m:=λm y=>(s.agW.fits m y).1;have fp:=s.rJ.dL;have MI:=s.agW.dL;obtain⟨N,F⟩:=ex (max old.length n);have aqG:N<=300:=ad;have P:old.length<=N:=ad;have hsize:=TF (N:=N) h1 h2 iK.2 aqG tp;obtain⟨hD,O⟩:=ex (xM old ms n);have jG:hD.length=n:=by rw[<-O];exact avn _ _ _
 have Z:aE (∀W,au w W->aC ax 27 #[ae i old.length b0,eN (old.length:Int) (n:Int) g1 g2 (ae A ms.length c)] W λe w'=>∃C D,e=aB (ae C n D)/\cj W w' (bg C n D 5 1 (hD.map a6))):=hid (λW g=>by rw[<-O];exact avr i A b0 c n (old.length:Int) g1 g2 old ms W (hold.aH g) (M.aH g) ad ad ad wa (λm y=>(s.rJ.fits m y).2.1) s.RP);obtain⟨cs,hcs⟩:=ex (fu ms od++rs);have T:aE (∀W,au w W->aC ax 45 #[ae i old.length b0,ae A ms.length c] W λe w'=>∃C D t,e=aB (ae C cs.length D)/\cj W w' t/\ie t C D cs):=hid (λW g=>by rw[<-hcs];exact Y0 i A b0 c old ms S o od rs W (hold.aH g) hc0 ad (M.aH g) hX s.iH);have Q:=s.pre;rw[hcs]at G MI Q hsm⊢;have U:aE (∀W E c1 aL c2,au w W->bX W E hD->aC ax 46 #[ae i old.length b0,ae E n c1,ae aL cs.length c2] W λe w'=>(∃cK cI:dq,e=aB (eN (old.length:Int) (n:Int) cK cI (ae aL cs.length c2)))/\au W w'):=hid (λW E c1 aL c2 g h=>by rw[<-jG];exact avz b0 c1 i E aL cs.length c2 old hD W ad ad (hold.aH g) h);obtain⟨d,K⟩:=ex ((dV sz 0 N).2);obtain⟨f,L⟩:=ex (2*eo sz bd);obtain⟨b,u⟩:=ex (gq sz bd N);have hlc:mF sz bd N=#[J R (sz:Int),J R (bd:Int),J R 0,J R (N:Int),J R (d:Int),J R (f:Int),J R (b:Int)]:=by rw[mF,K,L,u]
 have V:aE (∀W,au w W->aC ax 47 #[J R (sz:Int),J R (bd:Int),J R (old.length:Int),J R (n:Int)] W λe w'=>e=aB (bo #[ar #[J R (sz:Int),J R (bd:Int),J R 0,J R (N:Int),J R (d:Int),J R (f:Int),J R (b:Int)],J R 0])/\au W w'):=hid (λW _=>by rw[<-hlc,<-F];exact avX sz bd old.length n ⟨h1,ad⟩ ⟨iK.1,ad⟩ ad ad W);have X:aE (∀W,au w W->aC ax 48 #[J R (sz:Int),J R (bd:Int),J R (old.length:Int),J R (n:Int)] W λe w'=>e=aB (bo #[ar #[J R (sz:Int),J R (bd:Int),J R 0,J R (N:Int),J R (d:Int),J R (f:Int),J R (b:Int)],J R 0])/\au W w'):=hid (λW _=>by rw[<-hlc,<-F];exact ad4 sz bd old.length n ⟨h1,ad⟩ ⟨iK.1,ad⟩ ad ad W);have vo:aE (∀W aL c2 cK cI,cZ W aL cs->aC ax 42 #[J R (bd:Int),eN (old.length:Int) (n:Int) cK cI (ae aL cs.length c2)] W λe w'=>e=aB (ai az)/\au W w'):=hid (λW aL c2 cK cI h=>afN (bd:Int) (old.length:Int) (n:Int) cK cI aL c2 cs W h (λm y=>aub (G m y)) az ⟨λ_=>hsm,λ_=>aa⟩);have ak9:aE (∀W aL c2,cZ W aL cs->aC ax 34 #[ae aL cs.length c2] W λe w'=>e=aB (J R (cs.length:Int))/\au W w'):=hid (λW aL c2 h=>awa aL c2 cs W h ad G Q);rw[u]at hsize;rw[F,K,L,u];have Y:aE (∀W,au w W->aC ax 49 #[ar #[J R (sz:Int),J R (bd:Int),J R 0,J R (N:Int),J R (d:Int),J R (f:Int),J R (b:Int)],J R (mo:Int),ae i old.length b0] W λe w'=>∃B,e=aB (bo #[ay (ab ⟨B,0,af⟩),J R 0])/\∃t,cj W w' t/\Hq t B (sz*(b+mo))):=hid (λW g=>by rw[<-hlc,<-u];exact awb sz bd N mo i b0 old W h1 (by rw[u];exact hsize) P (hold.aH g));have I:aE (∀W p,au w W->W.cell? ⟨p,0,af⟩=ab (ae i old.length b0)->aC ax 40 #[ar #[J R (sz:Int),J R (bd:Int),J R 0,J R (N:Int),J R (d:Int),J R (f:Int),J R (b:Int)],J R (mo:Int),ae (ab ⟨p,0,af⟩) 1 1] W λe w'=>∃B m,e=aB (bo #[dc B,J R 0])/\cj W w' (aN B m (mI sz (b+mo) old))):=hid (λW p g h=>by rw[<-hlc,<-u];exact aec sz bd N mo p i b0 old W h1 (by rw[u];exact hsize) P h (hold.aH g));clear hlc u L K F O hcs hold M wa G s Q hsm hX hc0;obtain⟨A7,eB⟩:=ex (mI sz (b+mo) old);rw[eB]at I⊢;obtain⟨ol,acN⟩:=ex old.length;rw[acN]at Z T U V X vo Y I gU P⊢;clear eB acN;go_enter func10,ntmps10;have a:=a8 w;go_step;refine ah ?_;refine bL a (ar (fz [ae i ol b0] (a' (ol:Int) (n:Int) g1 g2 (ae A ms.length c)) [J R (sz:Int),J R (bd:Int),J R (mo:Int)])) (λdE w1 a=>?_);refine bn a (fz [] (a' 0 0 dq.zero dq.zero (ae af 0 0)) [ay af,ay af,J R 0,J R 0,J R 0,J R 0,J R 0,J R 0,J R 0,ae af 0 0]) (λct aU a=>?_);refine cA ?_;refine pl a 1 0 ?_ (hv:=mm (k:=0) aa);refine ag ?_;refine bh a 1 (a' (ol:Int) (n:Int) g1 g2 (ae A ms.length c)) ?_ (hv:=o6) (hk:=oz (b7 _)) (hz:=by rw[bD];rfl);refine aR (Z _ a.only) ?_;rintro e bI ⟨q,r,rfl,x⟩;replace a:=a.new _ x;refine aT ?_;refine pk (ar (fz [] (a' 0 0 dq.zero dq.zero (ae af 0 0)) [ay af,ay af,J R 0,J R 0,J R 0,J R 0,J R 0,J R 0,J R 0,ae q n r])) ?_;refine bn a (fz [] (a' 0 0 dq.zero dq.zero (ae af 0 0)) [ay af,ay af,J R 0,J R 0,J R 0,J R 0,J R 0,J R 0,J R 0,ae af 0 0]) (λdv b9 a=>?_);refine bb a 0 (ar (fz [] (a' 0 0 dq.zero dq.zero (ae af 0 0)) [ay af,ay af,J R 0,J R 0,J R 0,J R 0,J R 0,J R 0,J R 0,ae q n r])) (λcE a=>?_) (hk:=by show 0+gB (fz _ _ _)<=_;simp only[pM,bD];exact of_decide_eq_true aa) (hz:=by show _=ab (gB (fz _ _ _));rw[pM,bD];rfl) (h1:=(UE aa (sf aa) aa)) (hc:=lay_all (by show gB (fz _ _ _)=_;simp only[pM,bD];rfl));refine b5 ?_;refine pl a 3 0 ?_ (hv:=mm (k:=0) aa);refine v2 ?_;refine pl a 3 67 ?_ (hv:=awL (k:=66) fi);refine aR (T _ a.only) ?_;rintro e cV ⟨l,dz,z,rfl,x,fF⟩;have H:=hid fF;clear fF;replace a:=a.new _ x;refine aT ?_;refine cA ?_;refine pl a 4 0 ?_ (hv:=mm (k:=0) aa);refine ag ?_;refine pl a 1 76 ?_ (hv:=fv (k:=9) bD aa);refine ag ?_;refine aR (U _ q r l dz a.only (a.atR 2).Jz) ?_;rintro e dJ ⟨⟨cK,cI,rfl⟩,g⟩;replace a:=a.aH g;refine aT ?_;refine ag ?_;refine bb a 1 (ar (a' (ol:Int) (n:Int) cK cI (ae l cs.length dz))) (λdB a=>?_) (hk:=oz (Nat.le_of_eq (bD.trans bD.symm))) (hz:=by show _=ab (gB (a' _ _ _ _ _));rw[bD];rfl) (h1:=sf aa) (hc:=awM (bD.trans bD.symm));refine b5 ?_;refine pl a 4 68 ?_ (hv:=fv (k:=0) bD aa);refine ag ?_;refine pl a 4 69 ?_ (hv:=fv (k:=1) bD aa);refine ag ?_;refine pl a 4 0 ?_ (hv:=mm (k:=0) aa);refine v2 ?_;refine pl a 1 76 ?_ (hv:=fv (k:=9) bD aa);refine ag ?_;refine bH (V _ a.only) a (λeZ a=>?_);refine v3 ?_;refine bn a #[J R 0,J R 0,J R 0,J R 0,J R 0,J R 0,J R 0] (λer gV a=>?_);refine bb a 0 (ar #[J R (sz:Int),J R (bd:Int),J R 0,J R (N:Int),J R (d:Int),J R (f:Int),J R (b:Int)]) (λhZ a=>?_);refine cA ?_;refine pl a 5 68 ?_ (hv:=fv (k:=0) bD aa);refine ag ?_;refine pl a 5 69 ?_ (hv:=fv (k:=1) bD aa);refine ag ?_;refine pl a 5 0 ?_ (hv:=mm (k:=0) aa);refine v2 ?_;refine pl a 2 76 ?_ (hv:=fv (k:=9) bD aa);refine ag ?_;refine bH (X _ a.only) a (λjQ a=>?_);refine v3 ?_;refine bn a #[J R 0,J R 0,J R 0,J R 0,J R 0,J R 0,J R 0] (λet ke a=>?_);refine bb a 0 (ar #[J R (sz:Int),J R (bd:Int),J R 0,J R (N:Int),J R (d:Int),J R (f:Int),J R (b:Int)]) (λk8 a=>?_);refine cA ?_;refine pk (ai ao) ?_;refine v2 ?_;refine pk (ai ao) ?_;refine v2 ?_;refine bh a 0 #[J R (sz:Int),J R (bd:Int),J R 0,J R (N:Int),J R (d:Int),J R (f:Int),J R (b:Int)] ?_;refine bh a 1 #[J R (sz:Int),J R (bd:Int),J R 0,J R (N:Int),J R (d:Int),J R (f:Int),J R (b:Int)] ?_;refine aI (ai ao) (by(go_simp;try simp)) ?_;refine v3 ?_;refine pl a 6 69 ?_ (hv:=fv (k:=1) bD aa);refine ag ?_;refine bh a 3 (a' (ol:Int) (n:Int) cK cI (ae l cs.length dz)) ?_ (hv:=o6) (hk:=oz (b7 _)) (hz:=by rw[bD];rfl);refine bH (vo _ _ _ _ _ (H.out.xR (a.at (t:=z) 2))) a (λmn a=>?_);refine pk (ai ao) ?_;refine v3 ?_;refine bH (ak9 _ _ _ (H.out.xR (a.at (t:=z) 2))) a (λnn a=>?_);refine v2 ?_;refine aI (ai ao) (by(go_simp;try simp)) ?_;refine ed ?_;refine bh a 1 #[J R (sz:Int),J R (bd:Int),J R 0,J R (N:Int),J R (d:Int),J R (f:Int),J R (b:Int)] ?_;refine ag ?_;refine bb a 3 (ar #[J R (sz:Int),J R (bd:Int),J R 0,J R (N:Int),J R (d:Int),J R (f:Int),J R (b:Int)]) (λpO a=>?_) (hk:=UF (j:=2) bD (of_decide_eq_true aa)) (hc:=UG (j:=2) bD (of_decide_eq_true aa));refine ah ?_;refine bh a 1 #[J R (sz:Int),J R (bd:Int),J R 0,J R (N:Int),J R (d:Int),J R (f:Int),J R (b:Int)] ?_;refine ag ?_;refine pl a 6 70 ?_ (hv:=fv (k:=2) bD aa);refine ag ?_;refine pl a 6 0 ?_ (hv:=mm (k:=0) aa);refine aR (Y _ a.only) ?_;rintro e rK ⟨gY,rfl,t2,x,fj⟩;replace a:=a.new _ x;refine aT ?_;refine v4 ?_;refine bb a 4 (ay (ab ⟨gY,0,af⟩)) (λu4 a=>?_) (hk:=UF (j:=1) bD (of_decide_eq_true aa)) (hc:=UG (j:=1) bD (of_decide_eq_true aa));refine ah ?_;refine bh a 1 #[J R (sz:Int),J R (bd:Int),J R 0,J R (N:Int),J R (d:Int),J R (f:Int),J R (b:Int)] ?_;refine ag ?_;refine pl a 7 70 ?_ (hv:=fv (k:=2) bD aa);refine ag ?_;refine pl a 7 0 ?_ (hv:=mm (k:=0) aa);refine e' a #[ae i ol b0] 22 (λahR x0 a=>?_);refine aR (I _ ahR a.only (aX.cell (a.aV 0) 0 aa)) ?_;rintro e Bw ⟨B,m,rfl,x⟩;replace a:=a.new _ x;refine aT ?_;refine v4 ?_;refine bb a 6 (ay (ab ⟨B,0,af⟩)) (λBx a=>?_) (hk:=UF (j:=0) bD (of_decide_eq_true aa)) (hc:=UG (j:=0) bD (of_decide_eq_true aa));refine cx ?_;refine bN a [9] (λ_ _=>a1) (λ_=>λ|9=>aj ct (fz [] (a' (ol:Int) (n:Int) cK cI (ae l cs.length dz)) [ay (ab ⟨B,0,af⟩),ay (ab ⟨gY,0,af⟩),J R (sz:Int),J R (bd:Int),J R 0,J R (N:Int),J R (d:Int),J R (f:Int),J R (b:Int),ae q n r]) 39|_=>emp) (λ|9=>[8]|_=>[]) (λ|0=>[6]|2=>[6]|6=>[6]|_=>[]) (λ_=>[]) [0,1,2,3,4,5,6,7,9,19] (λus=>?_);refine eO 0 (fz [] (a' (ol:Int) (n:Int) cK cI (ae l cs.length dz)) [ay (ab ⟨B,0,af⟩),ay (ab ⟨gY,0,af⟩),J R (sz:Int),J R (bd:Int),J R 0,J R (N:Int),J R (d:Int),J R (f:Int),J R (b:Int),ae q n r]) ?_ (hv:=(e4 _)) (hk:=by show 0+_<=gB _;rw[js];exact b7 _) (hz:=(by rw[pM,bD];rfl));refine aJ ?_;refine dl 0 68 ?_ (hv:=fv (k:=1) bD aa);refine aK (ai az) (λ_ _ _=>by(go_simp;try simp)) ?_;refine bx ?_;refine dl 0 67 ?_ (hv:=fv (k:=0) bD aa);refine aK (ai az) (λ_ _ _=>by(go_simp;try simp)) ?_;refine aJ ?_;refine fY (ar (fz [] (a' (ol:Int) (n:Int) cK cI (ae l cs.length dz)) [ay (ab ⟨B,0,af⟩),ay (ab ⟨gY,0,af⟩),J R (sz:Int),J R (bd:Int),J R 0,J R (N:Int),J R (d:Int),J R (f:Int),J R (b:Int),ae q n r])) ?_ (hk:=by show 0+gB (fz _ _ _)<=_;simp only[pM,bD];exact of_decide_eq_true aa) (hz:=by show _=ab (gB (fz _ _ _));rw[pM,bD];rfl) (h1:=(UE aa (sf aa) aa)) (hc:=lay_all (by show gB (fz _ _ _)=_;simp only[pM,bD];rfl));refine aJ ?_;refine bQ λDK a=>?_;go_wp2_with fail;refine c8 (v:=bo #[ar (fz [] (a' (ol:Int) (n:Int) cK cI (ae l cs.length dz)) [ay (ab ⟨B,0,af⟩),ay (ab ⟨gY,0,af⟩),J R (sz:Int),J R (bd:Int),J R 0,J R (N:Int),J R (d:Int),J R (f:Int),J R (b:Int),ae q n r]),ai az]) (ml aa aa aa (a.aV 9) aw (by rw[pM,bD];rfl)) aa (⟨cK,cI,l,dz,B,gY,q,r,aa,z,t2,m,H,fj,(ak.fP 3 (a.pick (l':=[z,aN B m A7,t2]) [5,0,2])).fresh 0⟩)
end
def Zx{m}(h:gJ m):uk m=0:=by
 have h1:=h.cm;have e:lC (cm m)=true:=by grind[lC,cm]
 unfold uk;by_cases hk:m.k=1;·obtain⟨a,b,c,d⟩:=h.copy hk;grind[lC,src]
 .obtain⟨a,b,c,d⟩:=h.lit hk;rw[if_neg ad,if_neg ad,e,if_neg bc,if_neg ad,if_neg ad]
def axe{o n m}(h:j3 o n m):zF (o:Int) (n:Int) m=0:=by unfold zF;rw[Zx h.1,if_neg bc,if_neg (λa=>by have:=h.2.1 a.1;omega),if_neg (by have:=h.2.2;omega)]
def ap2{ms m x}(a:m∈ms)(hx:hasB m x=az):¬tl ms x<0:=by grind[aar]
def ayf{o n ms}(d:∀m∈ms,j3 o n m)(cd:Lays n (ms.map cm))(h1:(o:Int)<=4611686018427387903)(c:(n:Int)<=4611686018427387903):oM (o:Int) (n:Int) ms:=by
 refine⟨⟨⟨ad,ad⟩,h1,c⟩,λm a=>axe (d m a),λi j x y f hx b=>?_,λt k=>?_⟩;·obtain⟨hi,rfl⟩:=eM.1 hx;obtain⟨g,rfl⟩:=eM.1 b;have h:=mv.1 (yJ.1 cd.apart) j i g hi f;grind[meets]
 .unfold oh;by_cases hlt:wh ms t<(n:Int)
  .rw[decide_eq_true hlt,Ks];refine decide_eq_false ?_
   have hz:∃z∈ms.map cm,z.1<=wh ms t/\wh ms t<z.1+z.2:=by
    cases t with
    |zero=>exact cd.zero (by have:(0:Int)<n:=hlt;omega)
    |succ t=>
     obtain⟨m,a⟩:∃m,ms[t]?=ab m:=⟨_,cF ad⟩;have e:wh ms (t+1)=m.to+cD m:=by grind[wh]
     rw[e]at hlt⊢;exact cd.next _ (gQ.2 ⟨m,cW a,aa⟩) hlt
   obtain⟨z,hz1,hz2⟩:=hz;obtain⟨y,b,rfl⟩:=gQ.1 hz1;exact ap2 b (H7.2 hz2)
  .grind
def anW{s a b}(h:(a.map cm).Perm (b.map cm)):oP s a=oP s b:=by
 have e:∀l:List _,oP s l=((l.map cm).map (λx=>(x.2 -1).toNat/s+1)).sum:=λl=>by unfold oP;rw[List.map_map];rfl
 rw[e,e];exact(h.map _).sum_nat
def ZA{s m}:∀{ms},m∈ms->vF s m<=oP s ms
 |x::l,h=>by
  have e:oP s (x::l)=vF s x+oP s l:=ba;rcases gD.1 h with rfl|h;·omega
  .have:=ZA (s:=s) h;omega
def apV{s o n a b}(h:GA s a)(g:(b.map cm).Perm (a.map cm))(d:∀m∈b,j3 o n m)(hn:n<=300)(f:b.length<=30):GA s b:=by
 have e:oP s b<=300:=by rw[anW g];exact h.sum
 refine⟨f,λm c=>⟨Zx (d m c).1,?_,eb (ZA c) e⟩,e⟩;obtain⟨h1,_,i⟩:=d m c;have j:=h1.cm;by_cases hk:m.k=1;·rw[(h1.copy hk).2.2.2];simp
 .grind[cD]
def aop{s:Nat}{ms}(hv:∀m∈ms,gJ m):(dO (s:Int) ms).length=oP s ms:=by
 induction ms with
 |nil=>rfl
 |cons m l a=>
  have e:dO (s:Int) (m::l)=CB (s:Int) m++dO (s:Int) l:=ba;rw[e,db,a (λx hx=>hv x aG),ZH,anu (hv m bc).cm.2.1,p3];simp[oP]
theorem aof{m a b}(hv:gJ m)(c:m.to<=a)(h1:0<=b)(d:a+b<=m.to+cD m):cD (w7 m a b)=b:=by grind[w7,cD]
def aoo{s o n:Nat}{ms}(x:1<=s)(c:∀m∈ms,j3 o n m):∀bl∈dO (s:Int) ms,∃t:Nat,bl.to=(t:Int)/\0<=cD bl/\cD bl<=(s:Int)/\(t:Int)+cD bl<=(n:Int)/\(bl.k=1->0<=bl.fr/\bl.fr+bl.n<=(o:Int)):=λbl b=>by
 unfold dO at b;obtain⟨m,e,h1⟩:=Lt.1 b;unfold CB at h1;obtain⟨k,hk,rfl⟩:=gQ.1 h1;have hk2:=mU.1 hk;obtain⟨a,r,u⟩:=c m e;have y:=a.cm;obtain⟨A,B,g,h⟩:=ZI (s:=(s:Int)) (k:=(k:Int)) a ad ad ad;obtain⟨j,d⟩:=ex (tj m (s:Int) (k:Int)*(s:Int));have w:cD (rf m (s:Int) (k:Int))=min (s:Int) (cD m -j):=by grind[rf,aof]
 rw[d]at g h;have z:(rf m (s:Int) (k:Int)).to=m.to+j:=by grind[rf,w7]
 refine⟨(m.to+j).toNat,ad,ad,ad,ad,λv=>?_⟩;by_cases f:m.k=1;·obtain⟨i,l,p,q⟩:=a.copy f;grind[cD,rf,w7]
 .grind[rf,w7]
structure ahY (old:List Int) (ms:List bO) (n sz bd mo:Nat) (S:List jS) (o od:List Int) (rs:List bO):Prop where
 aty:YB old ms n S o od rs
 xT:EC (bd:Int) (old.length:Int) (n:Int) (fu ms od++rs)
 ok:∀cK cI:dq,nW ⟨bd,old.length,n,cK,cI,fu ms od++rs⟩ (mI sz (gq sz bd (max old.length n)+mo) old)
 cnt:oP bd (fu ms od++rs)<=300
def aom{o}{n sz bd mo:Nat}{old ms}(h:Ly old.length o (n:Int) (sz:Int) (bd:Int) (mo:Int) ms):∃S ev od rs,ahY old ms n sz bd mo S ev od rs:=by
 obtain⟨v,hsm,rfl,iK,hsz,u⟩:=h;have hr:=hsm.ok;have d:=hsm.dL;have b:=hr.fits;have cd:=hr.lays;obtain⟨S,ev,od,AI,hc⟩:=anI hr d;obtain⟨rs,hr2⟩:=ath (ev:=ev) b aa cd
 have f:∀x∈od,∃i:Nat,x=(i:Int)/\i<ms.length:=λx hx=>by obtain⟨h1,_⟩:=hc.iH.ord.1.nodup.2 x hx;exact⟨x.toNat,ad,ad⟩
 have g:=an9 b aa hc.iH hr2
 have p:=aoa b hc.iH hr2 f
 have a:=aob b aa cd g d hr.bd.2.1 hr.bd.2.2
 have j:((fu ms od++rs).map cm).Perm (ms.map cm):=by rw[<-UT (ev:=ev) b aa];exact g.map _
 have hn:=hsm.hn;have hfw:=hsm.cnt iK;rw[p3]at hfw;have e:=apV hfw j a.fits ad (eb a.dL aS);have k:=hsm.iK;have l:=TF (size:=sz) (bd:=bd) (N:=max old.length n) (mo:=mo) ad ad ad ad ad;have q:1<=gq sz bd (max old.length n):=by grind[eo,gq]
 refine⟨S,ev,od,rs,⟨hr.rJ d,cd.RP,⟨hc.iH,f,?_,λm c hk=>?_,hr2⟩,a,p⟩,⟨a.dL,ad,hn,?_,ayf a.fits (cd.perm j.symm) hr.bd.2.1 hr.bd.2.2,k,λ_=>aG⟩,λcK cI=>⟨NC ad ad l ?_,⟨aG,aG⟩,⟨aG,aG⟩,a,?_,?_,aoo (s:=bd) ad a.fits⟩,e.sum⟩;·have:=hc.iH.ord.1.length;omega
 .obtain⟨h1,r,_⟩:=(b m c).1.copy hk;have t:=(b m c).2.1 hk;exact⟨m.fr.toNat,m.n.toNat,ad,ad,ad⟩
 .unfold ux;rw[x6,decide_eq_true_eq];exact⟨Ce.2 (λm c=>decide_eq_true (e.each m c).2.1),eb a.dL aS⟩
 .exact eb (Nat.le_max_left _ n) (Dk (s:=sz) (N:=_) ad)
 .show gq sz bd (max old.length n)<=gq sz bd (max old.length n)+mo;omega
 .rw[aop (λm c=>(a.fits m c).1)];exact eb e.sum aS
section
open Go.RowKit Go.MapKept
attribute [local irreducible] wpList cM
def aoi C(B c cs)(A f)m d a W t(h:nW C d)(v:d.down=ao)(D:d.cache=[])(z:ie t A c C.ms)(y:a.length<=1048576)(w:∀k∈a,cN k.1)(u:Has W (aN B m d))(r:Has W t)(hap:∀b,t.cU b->¬(aN B m d).cU b)(p:Has W (bg f a.length cs 105 2 (iz a)))(has:∀b,(bg f a.length cs 105 2 (iz a)).cU b->¬(aN B m d).cU b):
 aC ax 19 #[dc B,J R (C.bd:Int),eN (C.o:Int) (C.n:Int) C.g1 C.g2 (ae A C.ms.length c),ae f a.length cs] W λe w'=>∃pk i j q,pk<=(C.bd:Int)/\e=aB (ar #[ae i (fB C (a++[(-1,0)]) d).1.length j,ai (ri (fB C (a++[(-1,0)]) d).1),J R pk])/\Turned W w' (aN B m d) (both (bg i (fB C (a++[(-1,0)]) d).1.length j 158 5 (q9 (fB C (a++[(-1,0)]) d).1)) (aN B q (fB C (a++[(-1,0)]) d).2)):=by
 refine(ZM C B c cs A f m d a W W (aN B m d).cU emp h v aG (λl g=>z.xR (t.nG W l (λb hb hlt=>g.block b hlt (hap b hb)) r.2 r.1)) (λl g=>Row.cells ((bg f _ cs _ 2 _).nG W l (λb hb hlt=>g.block b hlt (has b hb)) p.2 p.1)) ⟨Row.cap p.1,y⟩ w ((ak.start u).dM.perm (Cd _ _ _))).mono ?_;rintro e w' ⟨pk,x,i,j,rfl,q,s⟩;exact⟨pk,i,j,q,x,aa,(s.star).gu 0⟩
end
section
open Go.RowKit Go.MapKept
structure hA (P:Nat->Prop) (B0:List Int) (L:Nat) (d:dF):Prop where
 b:∀i,P i->d.bytes[i]?=B0[i]?
 c:∀x∈d.cache,∀j,j<d.size->P (x.1*d.size+j)->x.2[j]?=B0[x.1*d.size+j]?
 hi:d.hi<=(L:Int)
def awU{s i}(a:1<=s):∃q j,j<s/\i=q*s+j:=⟨i/s,i%s,Ho _ a,by grind[Q6]⟩
def avj{s i bs b}(hb:b.length=s)(h:(i+1)*s<=bs.length){q j}(c:j<s):(xL s bs i b)[q*s+j]?=if q=i then b[j]? else bs[q*s+j]?:=by
 have e:xL s bs i b=jP bs _ b:=rfl;rw[vx,Lv]at h;rw[e];by_cases a:q=i;·grind[auE]
 .rw[if_neg a];refine aeT ad ?_;rcases Nat.lt_or_gt_of_ne a with h1|h1;·left;have:=oK s (show q+1<=i from h1);rw[vx,Lv]at this;omega
  .right;have:=oK s (show i+1<=q from h1);rw[vx,Lv]at this;omega
section
variable {P:Nat->Prop} {B0:List Int} {L:Nat} {d:dF}
def hA.afa(h:hA P B0 L d)(e:dt d)f:∀q i,P i->(o5 d f q)[i]?=B0[i]?
 |0,i,hi=>h.b i hi
 |q+1,i,hi=>by
  have o:=h.afa e f q;unfold o5;split
  .rename_i x hx;split
   .obtain⟨a,j,g,rfl⟩:=awU (i:=i) e.kt;have k:=cW hx;obtain⟨h1,l⟩:=e.cache x k;have m:(x.1+1)*d.size<=(o5 d f q).length:=by rw[Jk e,e.len];exact oK _ h1
    rw[avj l m g];split;·rename_i n;subst n;exact h.c x k j g hi
    .grind
   .grind
  .grind
def hA.Uh(h:hA P B0 L d)(b:dt d)a:hA P B0 L (sB d a):=⟨λi hi=>h.afa b a _ i hi,λx hx=>(fS hx).elim,h.hi⟩
def hA.flush(h:hA P B0 L d)(e:dt d):hA P B0 L (lN d).2:=by
 unfold lN;split;·omega
 .have a:=h.Uh e (λ_=>az);exact⟨a.b,a.c,a.hi⟩
def hA.arm(h:hA P B0 L d)(n a):hA P B0 L (pq d n a):=⟨h.b,h.c,h.hi⟩
def hA.N2(h:hA P B0 L d)(e:dt d):hA P B0 L (sE d):=by have a:=h.Uh e (λ_=>ao);exact⟨a.b,a.c,a.hi⟩
def hA.read(h:hA P B0 L d){i j}(e:j<d.size)(a:P (i*d.size+j)):(lV d i)[j]?=B0[i*d.size+j]?:=by
 unfold lV;cases hk:sv (d.cache.map (·.1)) i with
 |none=>
  show((d.bytes.drop (i*d.size)).take d.size)[j]?=_;rw[q2,if_pos e,vv];exact h.b _ a
 |some k=>
  have h1:=TD hk;rw[jU]at h1;cases hx:d.cache[k]? with
  |none=>grind
  |some x=>
   rw[hx]at h1;have f:x.1=i:=aG;show((d.cache[k]?.map (·.2)).getD [])[j]?=_;rw[hx];subst f;exact h.c x (cW hx) j e a
def hA.write(h:hA P B0 L d)(f:dt d)(m:d.cache.length<1073741824){i b}(cd:i+1<=L)(hb:∀j,j<d.size->P (i*d.size+j)->b[j]?=B0[i*d.size+j]?):hA P B0 L (jj d (i:Int) b).2:=by
 unfold jj;split;·omega
 .rename_i hc;split;·omega
  .rename_i hbl;have l:=x' hbl;have hi:i<d.cnt:=by grind[j9]
   have a:hA P B0 L (wq d i b):=⟨h.b,λx hx j g k=>by
    rcases iX.1 hx with hx|hx;·exact h.c x hx j g k
    .obtain rfl:=ua.1 hx;exact hb j g k,by
    have:=h.hi;show max d.hi ((i:Int)+1)<=(L:Int);omega⟩;have n:hA P B0 L (rL d i b):=⟨a.b,a.c,a.hi⟩;rw[p3];split;·omega
   .split;·omega
    .have ok:=U8 f hi l m
     have o:dt (rL d i b):=⟨ok.kt,ok.um,ok.len,ok.small,ok.cache,ok.dL,by have:=f.wr;show cN (d.writes -1);unfold cN at*;omega⟩;have e:=n.Uh o (Di d.keep);exact⟨e.b,e.c,e.hi⟩
def hA.aaz{o bs}(h:hA P B0 L d)(b:dt d)(hn:o+bs.length<=d.bytes.length)(g:d.down=ao)(t:d.cache.length<=1000000000)(cd:∀x∈mK d.size o bs.length,x.1+1<=L)(r:∀i,P i->i<o\/o+bs.length<=i):hA P B0 L (lO d o bs).2:=by
 have hsm:d.bytes.length<=1048576:=by rw[b.len];exact b.small
 have v:=afi d o bs.length
 have key:∀(l:List _) (k:Nat) (cr:dF),(∀x∈l,x∈mK d.size o bs.length)->Cp d cr k->d.cache.length+k+l.length<1073741824->hA P B0 L cr->hA P B0 L (l.foldl (k9 o bs) (0,cr)).2:=by
  intro l;induction l with
  |nil=>simp
  |cons x l z=>
   intro k cr n a hk c;rw[List.length_cons]at hk;rw[List.foldl_cons];have f:=n x bc;obtain⟨A,B,C,D,E,F⟩:=NW b hn f;have e:k9 o bs (0,cr) x=jj cr (x.1:Int) (jP (lV cr x.1) (x.2.1 -x.1*cr.size) ((bs.drop (x.2.1 -o)).take x.2.2)):=ba;have y:=a.size;have s:=a.cnt;have w:=F7 a.ok (i:=x.1) ad;have hpl:((bs.drop (x.2.1 -o)).take x.2.2).length=x.2.2:=aG
   have u:hA P B0 L (k9 o bs (0,cr) x).2:=by
    rw[e];refine c.write a.ok (by have:=a.dL;omega) (cd x f) (λj m p=>?_);rw[aeT aG ?_];·exact c.read m p
    grind
   by_cases hx:(k9 o bs (0,cr) x).1=0;·have q:=a.step ad hx;grind
   .grind[JT]
 exact key _ 0 d (λ_ h=>h) ⟨b,aa,aa,g,b7 _⟩ ad h
def hA.wr{o bs}(h:hA P B0 L d)(a:dt d)(hn:o+bs.length<=d.bytes.length)(b:d.down=ao)(c:d.cache.length<=1000000000)(cd:∀x∈mK d.size o bs.length,x.1+1<=L)(e:∀i,P i->i<o\/o+bs.length<=i):hA P B0 L (jw d o bs).2:=by
 have h1:=h.aaz a hn b c cd e;unfold jw;split;·omega
 .exact h1.flush (Ml a hn b c).1.ok
end
def Cl(N size first L:Nat)(i:Nat):Prop:=(N<=i/\i<first*size)\/L*size<=i
section
variable {B0:List Int} {N first bd:Nat} {d:dF}
def af2{s o n}(a:1<=s){x}(hx:x∈mK s o n)E(h:o+n<=E*s):x.1+1<=E:=by obtain⟨h1,b,c⟩:=afj a hx;obtain⟨e,f,g,i,_⟩:=Ul a b c;have d:x.1*s<E*s:=ad;exact Nat.lt_of_mul_lt_mul_right d
def hA.file(h:hA (Cl N d.size first (first+2*eo d.size bd)) B0 (first+2*eo d.size bd) d)(hr:N<=first*d.size)(a:dt d){o bs}(ho:o+bs.length<=N)(e:N<=d.bytes.length)(b:d.down=ao)(c:d.cache.length<=1000000000):hA (Cl N d.size first (first+2*eo d.size bd)) B0 (first+2*eo d.size bd) (jw d o bs).2:=by
 refine h.wr a ad b c (λx hx=>?_) (λi hi=>?_);·have:=af2 a.kt hx first ad;omega
 .rcases hi with hi|hi;·omega
  grind
def hA.app(h:hA (Cl N d.size first (first+2*eo d.size bd)) B0 (first+2*eo d.size bd) d)(a:jA d first bd)(f:d.down=ao)(g:d.cache.length<=1000000000){id nx cu of j ds}(l:ds.length<=bd):hA (Cl N d.size first (first+2*eo d.size bd)) B0 (first+2*eo d.size bd) (iG d first bd id j nx cu of ds).2.2:=by
 have hroom:ot d first bd (nx%2)+(sg nx id cu of ds).length<=d.bytes.length:=by have h1:=a.room (i:=nx%2) ad;have b:=Tz a;rw[Mg];omega
 have hend:ot d first bd (nx%2)+(sg nx id cu of ds).length<=(first+2*eo d.size bd)*d.size:=by
  have b:=Tz a
  have e:ot d first bd (nx%2)+tr d bd<=(first+2*eo d.size bd)*d.size:=by unfold ot tr;rw[<-vx];refine oK _ ?_;have c:nx%2=0\/nx%2=1:=ad;rcases c with c|c<;>rw[c]<;>omega
  rw[Mg];omega
 have k:first*d.size<=ot d first bd (nx%2):=by grind[ot]
 have h1:=h.aaz a.dev hroom f g (λx hx=>af2 a.dev.kt hx _ hend) (λi hi=>by
  rcases hi with hi|hi;·omega
  .omega);have b:=Ml a.dev hroom f g;unfold iG;by_cases e:(lO d (ot d first bd (nx%2)) (sg nx id cu of ds)).1≠0;·grind
 .simp only[if_neg e];split;·exact h1.flush b.1.ok
  .exact h1.flush b.1.ok
def hA.ex(h:hA (Cl N d.size first (first+2*eo d.size bd)) B0 (first+2*eo d.size bd) d)(hr:N<=first*d.size)(b:jA d first bd)(m:N<=d.bytes.length)(f:d.down=ao)(i:d.cache.length<=1000000000){id jn nx t j bs}(g:bs.length<=bd)(n:t+bs.length<=N):hA (Cl N d.size first (first+2*eo d.size bd)) B0 (first+2*eo d.size bd) (kY d first bd id jn nx t j bs).2.2:=by
 have h1:=h.app b f i (id:=id) (nx:=jn) (cu:=nx) (of:=t) (j:=j) g;have a:=Hu (id:=id) (nx:=jn) (cu:=nx) (of:=t) (j:=j) b f i g;unfold kY;by_cases c:(iG d first bd id j jn nx t bs).1≠0;·grind
 .rw[if_neg c];have l:=a.2.1 (x' c);have k:=a.1.size;rw[<-k]at h1 hr;have e:=h1.file hr a.1.ok n (by rw[a.1.len b.dev];exact m) l.1 aG;rw[k]at e;exact e
end
end
section
open Go.RowKit Go.MapKept
structure kC (N sz first bd:Nat) (B0:List Int) (d:dF):Prop where
 hsz:d.size=sz
 k:hA (Cl N sz first (first+2*eo sz bd)) B0 (first+2*eo sz bd) d
section
variable {N sz first bd:Nat} {B0:List Int} {d:dF}
def kC.file(h:kC N sz first bd B0 d)(hr:N<=first*sz)(a:dt d){o bs}(ho:o+bs.length<=N)(e:N<=d.bytes.length)(b:d.down=ao)(c:d.cache.length<=1000000000):kC N sz first bd B0 (jw d o bs).2:=by obtain⟨rfl,k⟩:=h;exact⟨(U' a ad b c).1.size,k.file hr a ho e b c⟩
def kC.app(h:kC N sz first bd B0 d)(e:jA d first bd)(a:d.down=ao)(c:d.cache.length<=1000000000){id nx cu of j ds}(b:ds.length<=bd):kC N sz first bd B0 (iG d first bd id j nx cu of ds).2.2:=by obtain⟨rfl,k⟩:=h;exact⟨(Hu e a c b).1.size,k.app e a c b⟩
def kC.ex(h:kC N sz first bd B0 d)(hr:N<=first*sz)(e:jA d first bd)(f:N<=d.bytes.length)(a:d.down=ao)(c:d.cache.length<=1000000000){id jn nx t j bs}(b:bs.length<=bd)(g:t+bs.length<=N):kC N sz first bd B0 (kY d first bd id jn nx t j bs).2.2:=by obtain⟨rfl,k⟩:=h;exact⟨(aal e a c b ad).1.size,k.ex hr e f a c b g⟩
def kC.N2(h:kC N sz first bd B0 d)(a:dt d):kC N sz first bd B0 (sE d):=⟨h.hsz,h.k.N2 a⟩
end
section
variable {E:o9} {N sz:Nat} {B0:List Int}
def axy{s}(h:p8 E s)(hst:s.st≠2)(hr:N<=E.first*sz)(b:N<=s.d.bytes.length)(hx:∀bl∈dO E.bd E.ms,bl.to.toNat+(cD bl).toNat<=N)(m:s.bE=az->s.j.last.off.toNat+s.j.last.data.length<=N)(k:kC N sz E.first E.bd B0 s.d):kC N sz E.first E.bd B0 (gL E s).2.d/\((gL E s).1=0->(gL E s).2.bE=ao\/(gL E s).2.st=2):=by
 obtain⟨st,nx,bE,j,d⟩:=s;have w:nx<=(dO _ _).length:=h.nx;have a:jA d _ _:=h.j;have l:d.down=false:=h.up;have c:d.cache.length<=1000000000:=h.dL;have n:BI E d:=h.e;simp only at hst m b k;unfold gL;simp only[if_neg hst];by_cases i:bE=az;·rw[if_pos i];have h1:=k.file hr a.dev (m i) b l c;grind
 .rw[if_neg i];by_cases v:nx=(dO E.bd E.ms).length
  .have hn:(dO E.bd E.ms)[nx]?=none:=List.getElem?_eq_none ad;rw[hn];simp only
   have h1:kC N sz E.first E.bd B0 (nF E d j.next.toNat j).2.2:=by
    unfold nF;split;·exact k.app a l c (cB _)
    .omega
   grind
  .obtain⟨bl,g⟩:∃bl,(dO E.bd E.ms)[nx]?=ab bl:=⟨_,cF ad⟩;rw[g];simp only;obtain⟨t,hch,x⟩:=n.ch bl (cW g);have y:=hx bl (cW g)
   have u:(km d bl).length=(cD bl).toNat:=by
    unfold km cD;by_cases hk:bl.k=1;·obtain⟨f,q,o,p,r⟩:=hch.HH hk;rw[if_pos hk,if_pos hk,zC a.dev ad]
    .grind
   have h1:=k.ex hr a b l c (id:=E.id) (jn:=j.next.toNat) (nx:=nx) (t:=bl.to.toNat) (j:=j) hch.hC ad;split;·grind
   .grind
def afR:∀(k) s,p8 E s->N<=E.first*sz->N<=s.d.bytes.length->(∀bl∈dO E.bd E.ms,bl.to.toNat+(cD bl).toNat<=N)->(s.bE=az->s.st≠2->s.j.last.off.toNat+s.j.last.data.length<=N)->kC N sz E.first E.bd B0 s.d->kC N sz E.first E.bd B0 (tB E k s).2.d
 |0,s,_,_,_,_,_,h=>h
 |k+1,s,h,hr,e,hx,i,hk=>by
  unfold tB;by_cases hst:s.st=2;·rw[N6 hst,if_pos (cc hst)];exact hk
  .have h1:=UN h hst;have b:=axy h hst hr e hx (λq=>i q hst) hk;by_cases a:(gL E s).1≠0\/(gL E s).2.st=2;·rw[if_pos a];exact b.1
   .rw[if_neg a];have hz:=x' λh=>a (bZ h);have f:(gL E s).2.st≠2:=λh=>a (cc h);have g:=h1.2 hz f;refine afR k _ g.1 hr (by rw[h1.1.len h.j.dev];exact e) hx (λq _=>?_) b.1;rcases b.2 hz with c|c;·rw[c]at q;cases q
    .exact absurd c f
end
def atK{C d s}(h:nW C d)(hn:zt C d=.inr s)(m:s.bE=az)(hst:s.st≠2):s.j.last.off.toNat+s.j.last.data.length<=max C.o C.n:=by
 obtain⟨a,c⟩:=ex (rC d C.bd C.o C.n C.g1 C.g2 C.ms)
 have k:a.has=az->0<=a.last.cur/\0<=a.last.off:=λhh=>by rw[<-c]at hh⊢;obtain⟨bs,l⟩:=Us (NM (d:=d) (first:=(dV d.size 0 (max C.o C.n)).2) (bound:=C.bd) (id:=mC (jM C.o C.n C.g1 C.g2 C.ms)) hh);have hr:=RY l;exact⟨hr.1,hr.2.2⟩
 unfold zt EE at hn;rw[c]at hn;obtain⟨L,cd⟩:=ex (dO C.bd C.ms);have hch:=h.ch;rw[cd]at hn hch;clear c;split at hn;·cases hn
 .split at hn;·have hs2:=Rk hn;subst hs2;cases m
  .split at hn
   .rename_i e b;have e:a.has=true:=by simpa using e
    have hr:=k e;have hs2:=Rk hn;unfold Dp at b;rw[cd]at b;simp only[x6,decide_eq_true_eq]at b;obtain⟨w,f,g⟩:=b;subst hs2;show a.last.off.toNat+a.last.data.length<=_
    have hlt:a.last.cur.toNat<L.length:=by
     simp only at hst;split at hst;·exact absurd aa hst
     .omega
    obtain⟨bl,i⟩:∃bl,L[a.last.cur.toNat]?=ab bl:=⟨_,cF hlt⟩;obtain⟨t,p,q,r,u,v⟩:=hch bl (cW i);unfold stepT at f g;rw[if_pos hr.1,cd,i]at f g;simp only[cm]at f g;omega
   .cases hn
def afI{s N}(a:1<=s):N<=(dV s 0 N).2*s:=by have h:=Dk (s:=s) (N:=N) (e:=0) (x:=0) a;rw[An]at h;simpa using h
def amO{C d sz B0}(h:nW C d)(j:d.down=ao)(i:d.cache.length<=1000000000)(k:kC (max C.o C.n) sz (dV sz 0 (max C.o C.n)).2 C.bd B0 d):kC (max C.o C.n) sz (dV sz 0 (max C.o C.n)).2 C.bd B0 (mX C d).2:=by
 unfold mX;cases hn:zt C d with
 |inl f=>exact k.N2 h.ok
 |inr s=>
  obtain⟨h1,a⟩:=TW (E:=C.E d) h j i hn ⟨aa,aa,aa,aa,aa,aa⟩;have b:=UA h1;obtain⟨rfl,_⟩:=id k;have hr:=afI (N:=max C.o C.n) h.ok.kt
  have v:max C.o C.n<=d.bytes.length:=by have c:=Dk (s:=_) (N:=max C.o C.n) (e:=0) (x:=2*eo d.size C.bd) h.ok.kt;rw[h.ok.len,An _];refine eb c (Nat.mul_le_mul_left _ ?_);have:=h.lay;unfold gq at this;omega
  have g:kC (max C.o C.n) d.size (dV d.size 0 (max C.o C.n)).2 C.bd B0 (pL (C.E d) s).2.d:=by
   have hk2:kC (max C.o C.n) d.size (C.E d).first (C.E d).bd B0 s.d:=by rw[a];exact k
   unfold pL;split;·grind
   .exact afR _ s h1 hr aG (λbl l=>by obtain⟨t,m,p,r,u,_⟩:=h.ch bl l;omega) (λq cI=>atK h hn q cI) hk2
  rw[a]at b;exact g.N2 b.ok
def Y5{C sz B0}:∀(l) d,(∀x∈l,cN x.1)->nW C d->d.down=ao->d.cache.length<=1000000000->kC (max C.o C.n) sz (dV sz 0 (max C.o C.n)).2 C.bd B0 d->kC (max C.o C.n) sz (dV sz 0 (max C.o C.n)).2 C.bd B0 (fB C l d).2/\jT d (fB C l d).2
 |[],d,_,h,_,_,k=>⟨k,jT.refl h.ok⟩
 |x::l,d,i,h,f,e,k=>by
  have b:nW C (pq d _ x.2):=⟨YZ h.ok (i x bc),h.bd,h.sz,h.rJ,h.lay,h.dL,h.ch⟩;have m:kC _ sz _ _ B0 (pq d x.1 x.2):=⟨k.hsz,k.k.arm _ _⟩;have a:=Y4 b f e;have hk2:=amO b f e m;have g:jT d (mX C (pq d x.1 x.2)).2:=⟨a.1.ok,a.1.size,a.1.cnt⟩;rw[fB];split;·have c:=Y5 l _ (λy j=>i y (by simp[j])) (b.xb a.1) a.2.1 (by rw[a.2.2];exact cB _) hk2;exact⟨c.1,g.trans c.2⟩
  .exact⟨hk2,g⟩
end
section
open Go.RowKit Go.MapKept
attribute [local irreducible] wpList cM
theorem agm(c aL)(c1 c2)xs w(hx:bX w c xs)(f:bX w aL xs)(q:xs.length<=1048576):
 aC ax 22 #[ae c xs.length c1,ae aL xs.length c2] w λe w'=>e=aB (ai az)/\au w w':=by
 have j:=hid hx;have k:=hid f;clear hx f;go_enter func22,ntmps22;have a:=a8 w;go_step;refine ah ?_;refine zP ?_;refine aI (ai ao) (by(go_simp;try simp)) ?_;refine ah ?_;refine v3 ?_;refine an ?_;have i:=a;go_wp2_with fail;go_loopw [13] (λb wr=>∃d:Nat,d<=xs.length/\b=J R (d:Int)/\ak w (λ_=>False) wr []) (λb wr=>xs.length -(c' b).toNat);case atStart=>grind
 case round=>
  clear a i;obtain⟨d,p,rfl,a⟩:=hrel;by_cases hlt:d<xs.length
  .have n:(d:Int)<(xs.length:Int):=ad;obtain⟨dX,gr,l,hc1⟩:=j ad;obtain⟨dY,o,m,hc2⟩:=k ad;have g:=hc1 d hlt;have h:=hc2 d hlt;obtain⟨x,hx⟩:=ex (xs[d]?.getD 0);rw[hx]at g h;subst l;subst m;clear hx hc1 hc2;go_step;refine ah ?_;refine a7 (ai az) ?_;refine ah ?_;refine v2 ?_;refine cx ?_;refine bN a [] (λ_ _=>a1) (λ_ _=>emp) (λ_=>[]) (λ_=>[]) (λ_=>[]) [] (λr=>?_);refine bx ?_;refine aK _ (λ_ _ _=>b4 22 5 1 _ _ aa dK aw _ _ _ _ _ ((gr+d)) aa aa ad ad) ?_;refine jL g ?_;refine bx ?_;refine aK _ (λ_ _ _=>b4 22 5 1 _ _ aa dK aw _ _ _ _ _ ((o+d)) aa aa ad ad) ?_;refine jL h ?_;refine aK (ai ao) (λ_ _ _=>by(go_simp;try simp)) ?_;refine bQ λw1 a=>?_;refine ah ?_;refine pad (d:Int) 1 ((d+1:Nat):Int) ?_;refine bU ?_;go_wp2_with fail;go_roundw;case rel=>exact⟨d+1,ad,aa,a⟩
   case measure=>(simp only[c',p3];omega)
  .have n:¬(d:Int)<(xs.length:Int):=ad;go_step;refine ah ?_;refine a7 (ai ao) ?_;refine ah ?_;refine ag ?_;refine an ?_;go_wp2_with fail;go_ret;exact⟨aa,a.only⟩
def apC{w b aL c1 c2 a es d f dX dY}(h1:eU d w b c1 dX)(c:eU f w aL c2 dY)(k:dX.length=a)(l:dY.length=a)(j:dX.drop es=dY.drop es)(hn:a<=1048576):aC ax 22 #[ae (fm b c1 es 1) (a -es) (c1 -es),ae (fm aL c2 es 1) (a -es) (c2 -es)] w λe w'=>e=aB (ai az)/\au w w':=by have g:=bX.By (i:=es) h1.1 h1.2.2;have h:=bX.By (i:=es) c.1 c.2.2;grind[agm,List.length_drop]
def apA{w b aL c1 c2 a lo hi d f dX dY}(h1:eU d w b c1 dX)(c:eU f w aL c2 dY)(k:dX.length=a)(l:dY.length=a)(hh:hi<=a)(j:(dX.drop lo).take (hi -lo)=(dY.drop lo).take (hi -lo))(hn:a<=1048576):aC ax 22 #[ae (fm b c1 lo 1) (hi -lo) (c1 -lo),ae (fm aL c2 lo 1) (hi -lo) (c2 -lo)] w λe w'=>e=aB (ai az)/\au w w':=by have g:=bX.win (i:=lo) (q:=hi) h1.1 h1.2.2 ad;have h:=bX.win (i:=lo) (q:=hi) c.1 c.2.2 ad;grind[agm,oe]
def asU{N sz first bd cnt b}:kC N sz first bd (mI sz cnt b).bytes (mI sz cnt b):=⟨rfl,λ_ _=>rfl,λx hx=>(fS hx).elim,by show(0:Int)<=_;omega⟩
def asV{N sz first bd B0 d}(h:kC N sz first bd B0 d):d.bytes.drop ((first+2*eo sz bd)*sz)=B0.drop ((first+2*eo sz bd)*sz):=by refine wW λi=>?_;rw[vv,vv];exact h.k.b _ (cc (Nat.le_add_right _ _))
def asT{N sz first bd B0 d}(h:kC N sz first bd B0 d):(d.bytes.drop N).take (first*sz -N)=(B0.drop N).take (first*sz -N):=by
 refine wW λi=>?_;rw[q2,q2];split;·rw[vv,vv];exact h.k.b _ (bZ ⟨ad,ad⟩)
 .rfl
def axM qw(G A dC)(b0 c cs)(o n sz bd mo)(g1 g2)old ms p w(hm:w.cell? ⟨0,0,af⟩=ab (J R qw))(hold:bX w G old)(hc0:old.length<=b0)(hl:cZ w A ms)(ho:∀m∈ms,pF m)(hsc:Cells w 2 dC p.length (iz p))(zi:0<p.length->∀eH,dC=ab eH->eH.spot=af)(lP:∀k∈p,cN k.1):
 aC ax 4 #[ar (fz [ae G old.length b0] (a' o n g1 g2 (ae A ms.length c)) [J R sz,J R bd,J R mo]),ae dC p.length cs] w λe w'=>e=aB (ai az)/\au w w':=by
 have B7:aE (∀W,au w W->aC _ 9 _ W λe w'=>e=aB _/\au W w'):=hid (λW g=>awG qw W (g.cell hm (λh=>h)));clear hm
 obtain⟨b,hb⟩:∃b,b=az↔Ly old.length o n sz bd mo ms:=by
  by_cases h:Ly old.length o n sz bd mo ms;·exact⟨az,by simp[h]⟩
  .exact⟨ao,by simp[h]⟩
 have Q:=hid (λW g=>av0 G A _ b0 c o n sz bd mo g1 g2 ms W (hl.aH g) ho b hb);cases b with
 |false=>
  obtain⟨ol,K⟩:=ex old.length;rw[K]at Q⊢;clear hold hc0 hl ho hsc zi lP hb K;obtain⟨Z,I⟩:=ex p.length;rw[I];clear I;go_enter Tryz.func4,Tryz.ntmps4;have d:=a8 w;go_step;refine ah ?_;refine bL d (ar _) (λct w1 d=>?_);refine ed ?_;refine bh d 0 (fz [ae G ol b0] (a' o n g1 g2 (ae A ms.length c)) [J R sz,J R bd,J R mo]) ?_ (hv:=(e4 _)) (hk:=by show 0+_<=gB _;rw[js];exact b7 _) (hz:=(by rw[pM,bD];rfl));refine bH (Q _ d.only) d (λaU d=>?_);refine pk (ai az) ?_;refine ag ?_;iterate 3 refine ps ?_
  refine ed ?_;refine bH (B7.out _ d.only) d (λbI d=>?_);refine bU ?_;go_wp2_with fail;go_ret;exact⟨aa,d.only⟩
 |true=>
  have r:=hb.1 aa;by_cases h10:10<p.length;·obtain⟨ol,K⟩:=ex old.length;rw[K]at Q⊢;clear hold hc0 hl ho hsc zi lP hb r K;obtain⟨Z,I⟩:=ex p.length;rw[I]at h10⊢;clear I;have hz:(10:Int)<(Z:Int):=ad;go_enter Tryz.func4,Tryz.ntmps4;have d:=a8 w;go_step;refine ah ?_;refine bL d (ar _) (λct b9 d=>?_);refine ed ?_;refine bh d 0 (fz [ae G ol b0] (a' o n g1 g2 (ae A ms.length c)) [J R sz,J R bd,J R mo]) ?_ (hv:=(e4 _)) (hk:=by show 0+_<=gB _;rw[js];exact b7 _) (hz:=(by rw[pM,bD];rfl));refine bH (Q _ d.only) d (λcE d=>?_);refine pk (ai ao) ?_;refine v3 ?_;refine a7 (ai az) ?_;refine ed ?_;refine bH (B7.out _ d.only) d (λcV d=>?_);refine bU ?_;go_wp2_with fail;go_ret;exact⟨aa,d.only⟩
  .obtain⟨n,rfl⟩:∃z:Nat,n=(z:Int):=⟨n.toNat,by have h:=r.xT.ok.bd.1.2;omega⟩;obtain⟨sz,rfl⟩:∃z:Nat,sz=(z:Int):=⟨sz.toNat,by have h:=r.sz;omega⟩;obtain⟨bd,rfl⟩:∃z:Nat,bd=(z:Int):=⟨bd.toNat,by have h:=r.bd;omega⟩;obtain⟨mo,rfl⟩:∃z:Nat,mo=(z:Int):=⟨mo.toNat,by have h:=r.mo;omega⟩;obtain rfl:=r.fit;obtain⟨S,ev,od,rs,U⟩:=aom r
   have hX:∀m∈ms,m.data.length<=140737488355328:=λm hm=>by have f:=r.xT.short;unfold ux at f;have h4:=of_decide_eq_true (Ce.1 (Bool.and_eq_true_iff.1 f).1 m hm);omega
   have iK:=r.bd;have hsz:=r.sz;have tp:=r.mo;have arJ:=r.old;have aBC:=r.xT.hn;have aby:=r.xT.iK;obtain⟨N,d'⟩:=ex (max old.length n);have Y:=U.ok;rw[d']at Y;obtain⟨D,F⟩:=ex (mI sz (gq sz bd N+mo) old);have aaU:=F;rw[F]at Y;have cp:D.down=false:=by rw[<-F];rfl
   have y9:D.cache=[]:=by rw[<-F];rfl
   obtain⟨lK,xf⟩:=ex (fu ms od++rs);rw[xf]at Y;obtain⟨gn,V⟩:=ex ((dV sz 0 N).2);obtain⟨o2,iu⟩:=ex (2*eo sz bd);obtain⟨L,c9⟩:=ex (gq sz bd N);have G8:=hid (λW g=>by have q:=ato G A b0 c n sz bd mo g1 g2 _ ms S ev od rs W (hold.aH g) hc0 (hl.aH g) hX U.aty arJ ad ⟨ad,ad⟩ ad ad ad U.xT;rw[d',xf,aaU,V,iu,c9]at q;exact q);have yz:=hid (λW g=>awS dC cs p W (Cells.aH hsc g) zi ad);obtain⟨H,e8,hat⟩:∃a b,(∀cK cI,fB ⟨bd,old.length,n,cK,cI,lK⟩ (p++[(-1,0)]) D=(a cK cI,b cK cI)):=⟨λ_ _=>_,λ_ _=>_,λ_ _=>aa⟩;have Ej:aE (∀W cK cI B aL c2 m t ON sc,ie t aL c2 lK->Has W _->Has W t->(∀b,t.cU b->¬(aN B m D).cU b)->Has W _->(∀b,(bg ON p.length sc 105 2 (iz p)).cU b->¬(aN B m D).cU b)->aC _ 19 #[dc B,J R (bd:Int),eN (old.length:Int) (n:Int) cK cI (ae aL lK.length c2),ae ON _ sc] W λe w'=>∃pk P T aY,pk<=(bd:Int)/\e=aB (ar #[ae P (H cK cI).length T,ai (ri (H cK cI)),J R pk])/\Turned W w' _ (both (bg P (H cK cI).length T 158 5 (q9 (H cK cI))) (aN B aY (e8 cK cI)))):=hid (λW cK cI B aL c2 m t ON sc h1 h2 f h4 h5 h6=>by have q:=aoi _ B c2 _ aL _ m D p W t (Y cK cI) cp y9 h1 ad lP h2 f h4 h5 h6;rw[hat cK cI]at q;exact q);have MN:L=gn+2*eo sz bd:=by rw[<-c9,<-V];rfl
   have O:=NC (size:=sz) (cnt:=L+mo) (b:=old) ad (by have:1<=eo sz bd:=vA (cB _);omega) (by rw[<-c9];exact TF ad ad ad ad ad) (by have f:=Dk (s:=sz) (N:=N) (e:=mo) (x:=2*eo sz bd) ad;rw[V]at f;rw[MN];exact eb ad f);rw[c9]at F;rw[F]at O
   have X:=λcK cI=>by
    have f:=Y5 (C:=_) (sz:=sz) (B0:=D.bytes) (p++[(-1,0)]) D (λx hx=>by
     rcases iX.1 hx with h|h;·exact lP x h
     .obtain rfl:=ua.1 h;unfold cN;simp) (Y cK cI) cp (by rw[y9];exact cB _) (by rw[<-F];exact asU);rw[hat cK cI]at f;simp only at f;rw[d',V]at f;exact f
   obtain⟨y,k0⟩:=ex D.bytes.length;have SZ:y=sz*(L+mo):=by rw[<-k0,O.len,<-F];exact An _ _
   have acD:y<=1048576:=by rw[<-k0,O.len];exact O.small
   have aqZ:N<=gn*sz:=by rw[<-V];exact afI ad
   have acg:gn*sz<=L*sz:=oK _ ad;have SP:L*sz<=y:=by rw[SZ,An sz];exact oK _ ad
   have En:=hid (λcK cI=>by have f:=asV (X cK cI).1;rw[<-MN]at f;exact f);have Eo:=hid (λcK cI=>asT (X cK cI).1);have akK:=hid (λcK cI=>by have f:=(X cK cI).1.k.hi;rw[<-MN]at f;exact f);have XD:=hid O;have qU:=hid (λcK cI=>(X cK cI).2.ok);have p1:aE (∀cK cI,(e8 cK cI).bytes.length=y):=hid (λcK cI=>by rw[(X cK cI).2.len O,k0]);obtain⟨fs,CV⟩:=ex (gn*sz);obtain⟨es,hes⟩:=ex (L*sz);rw[CV]at aqZ acg Eo;rw[hes]at acg SP En;have akF:aE ((gn:Int)*(sz:Int)=(fs:Int)):=hid (by rw[<-CV];rfl);have akA:aE ((L:Int)*(sz:Int)=(es:Int)):=hid (by rw[<-hes];rfl);have s0:=hid k0;rw[<-SZ]at G8;clear CV hes k0 SZ X O MN;obtain⟨ol,K⟩:=ex old.length;rw[K]at Q G8 Ej⊢;obtain⟨Z,I⟩:=ex p.length;rw[I]at yz Ej h10⊢;have hz:¬(10:Int)<(Z:Int):=ad;clear hold hc0 hl ho hsc zi lP hb r U Y F aaU cp y9 xf V iu c9 hat d' K I hX;go_enter Tryz.func4,Tryz.ntmps4;have d:=a8 w;go_step;refine ah ?_;refine bL d (ar _) (λct dJ d=>?_);refine ed ?_;refine bh d 0 (fz [ae G ol b0] (a' (ol:Int) (n:Int) g1 g2 (ae A ms.length c)) [J R (sz:Int),J R (bd:Int),J R (mo:Int)]) ?_ (hv:=(e4 _)) (hk:=by show 0+_<=gB _;rw[js];exact b7 _) (hz:=(by rw[pM,bD];rfl));refine bH (Q _ d.only) d (λdB d=>?_);refine pk (ai ao) ?_;refine v3 ?_;refine a7 (ai ao) ?_;refine ed ?_;refine bh d 0 (fz [ae G ol b0] (a' (ol:Int) (n:Int) g1 g2 (ae A ms.length c)) [J R (sz:Int),J R (bd:Int),J R (mo:Int)]) ?_ (hv:=(e4 _)) (hk:=by show 0+_<=gB _;rw[js];exact b7 _) (hz:=(by rw[pM,bD];rfl));refine aR (G8 _ d.only) ?_;rintro e eZ ⟨cK,cI,e7,dz,B,gY,kx,mx,rfl,bG,t2,m,fF,abc,M⟩;have dw:=hid fF;have ald:=hid abc;clear fF abc;replace d:=d.new _ M;refine aT ?_;refine v3 ?_;refine bn d (fz [] (a' 0 0 dq.zero dq.zero _) _) (λeL gV d=>?_);refine bb d 0 (ar (fz [] _ _)) (λhZ d=>?_) (hk:=by show 0+gB (fz _ _ _)<=_;simp only[pM,bD];exact of_decide_eq_true aa) (hz:=by show _=ab (gB (fz _ _ _));rw[pM,bD];rfl) (h1:=(UE aa (sf aa) aa)) (hc:=lay_all (by show gB (fz _ _ _)=_;simp only[pM,bD];rfl));refine bU ?_;replace d:ak _ _ _ [bG,aN B m D,t2,aj eL (fz [] _ _) 39,aj ct _ 28]:=ak.kI (d.pick (l':=[bY _,aj eL _ 39,aj ct (fz _ _ _) 28]) [1,0,2]);refine b5 ?_;refine pk (ai ao) ?_;refine b5 ?_;refine pl d 3 67 ?_ (hv:=fv (k:=0) bD aa);refine aR (RX B m D _ (d.has 1) XD) ?_;rintro e jQ ⟨BE,Cx,rfl,M⟩;rw[s0];replace d:=d.new _ M;refine aT ?_;refine hI ?_;refine bN d [7,8] (λi u=>match i with|7=>ae u.A Z u.c|8=>ar #[ae u.A (H cK cI).length u.c,ai (ri (H cK cI)),J R (c' u.v)]|_=>a1) (λl=>λ|7=>bg (l 7).A Z (l 7).c 105 2 (iz p)|8=>both (bg (l 8).A (H cK cI).length (l 8).c 158 5 (q9 (H cK cI))) (aN B (l 8).m (e8 cK cI))|_=>emp) (λ|8=>[2]|_=>[]) (λ|1=>[4]|3=>[5]|5=>[4]|8=>[1,13]|_=>[]) (λ|7=>[7]|8=>[8]|_=>[]) [0,1,3,4,5,13,14] (λl=>?_);refine aJ ?_;refine dl 0 67 ?_ (hv:=fv (k:=0) bD aa);refine aJ ?_;refine dl 0 69 ?_ (hv:=fv (k:=1) bD aa);refine aJ ?_;refine eO 0 _ ?_ (hv:=o6 (a:=[])) (hk:=oz (b7 _)) (hz:=by rw[bD];rfl);refine aJ ?_;refine dh (λwl Fr d=>(yz wl d.only).mono ?_) ?_;·rintro e dr ⟨P,T,rfl,M⟩;exact⟨{A:=P,c:=T},aa,d.new _ M⟩
   refine dh (λwl Fr d=>(Ej wl cK cI B e7 dz m bG (l 7).A (l 7).c dw (d.has 0) (d.has 1) (d.ne (i:=1) (j:=0) aa aa aS) (d.has 2) (d.ne (i:=2) (j:=0) aa aa aS)).mono ?_) ?_;·rintro e dr ⟨pk,P,T,aY,nL,rfl,U⟩;exact⟨{A:=P,c:=T,m:=aY,v:=J R pk},aa,d.xV U⟩
   refine bQ λke d=>?_;generalize (l 7).A=ayX at d⊢;generalize (l 7).c=aAj at d⊢;generalize (l 8).A=ayY at d⊢;generalize (l 8).c=aAk at d⊢;generalize (l 8).m=aB8 at d⊢;generalize (l 8).v=aCm at d⊢;have Qb:=qU cK cI;obtain⟨E,aaV⟩:=ex (e8 cK cI);have Mv:=En cK cI;have H5:=Eo cK cI;have aqu:=akK cK cI;have nH:=p1 cK cI;rw[aaV]at d Qb Mv H5 aqu nH;have P':=hid Qb;have alb:=hid Mv;have alc:=hid H5;have Ll:=hid nH;clear Qb aaV Mv H5 nH;replace d:=(d.pk [6,0,1,2,3,4,5]).fw;replace d:=d.drop 0;replace d:=d.drop 6;refine b5 ?_;refine pl d 4 67 ?_ (hv:=fv (k:=0) bD aa);refine aR (RX B _ E _ (d.has 0) P') ?_;rintro e k8 ⟨Vr,Zk,rfl,M⟩;rw[Ll];replace d:=d.new _ M;refine aT ?_;refine hI ?_;refine bN d [] (λ_ _=>a1) (λ_ _=>emp) (λ_=>[]) (λ|3=>[5]|5=>[6]|9=>[5]|11=>[6]|_=>[]) (λ_=>[]) [0,1,2,3,4,5,6] (λl=>?_);refine c5 ?_;refine dl 0 73 ?_ (hv:=fv (k:=6) bD aa);refine aJ ?_;refine dl 0 68 ?_ (hv:=fv (k:=0) bD aa);refine aK _ (λ_ _ _=>ln 3 _ _ 3 aa _ _ _ aa aa akF ad ad) ?_;refine bx ?_;refine dl 0 75 ?_ (hv:=fv (k:=8) bD aa);refine aJ ?_;refine dl 0 68 ?_ (hv:=fv (k:=0) bD aa);refine aK _ (λ_ _ _=>ln 3 _ _ 3 aa _ _ _ aa aa akA ad ad) ?_;refine bx ?_;refine bQ λmn d=>?_;obtain⟨u5,w5,M0⟩:=ald.out;have alf:=hid M0;clear M0;have hcb:=(d.jW 2).2.2;have eA:=(d.jW 0).2.2;rw[s0]at hcb;rw[Ll]at eA;have aAS:¬E.hi>(L:Int):=ad;refine cx ?_;refine bN d [19,33] (λi _=>match i with|19=>ar #[J R E.eD,J R E.hD,J R E.iv,J R E.hi,J R E.mo]|33=>ai az|_=>a1) (λ_ _=>emp) (λ_=>[]) (λ|3=>[5]|6=>[4]|18=>[5]|19=>[1]|23=>[5]|33=>[0,2]|_=>[]) (λ_=>[]) [0,1,2,3,4,5,6,26,40] (λl=>?_);refine c5 ?_;refine dl 0 68 ?_ (hv:=fv (k:=1) bD aa);refine bx ?_;refine aK _ (λ_ _ d=>mc aa aa (alf _ (d.at (t:=t2) 0)) aw) ?_;refine aJ ?_;refine aK (ai ao) (λ_ _ _=>by(go_simp;try simp)) ?_;refine np ?_;refine aK (ai ao) (λ_ _ _=>by(go_simp;try simp)) ?_;refine c5 ?_;refine dl 0 67 ?_ (hv:=fv (k:=0) bD aa);refine dA (λ_ _ d=>Mb B _ E _ (d.has 0)) ?_;refine fJ (J R E.hi) ?_;refine bx ?_;refine dl 0 75 ?_ (hv:=fv (k:=8) bD aa);refine aK (ai ao) (λ_ _ _=>by(go_simp;try omega)) ?_;refine hG ?_;refine aK _ (λ_ _ _=>xS 22 5 1 _ _ aa dK aw Vr y Zk es (y -es) aa aa ad ad) ?_;refine bx ?_;refine aK _ (λ_ _ _=>xS 22 5 1 _ _ aa dK aw BE y Cx es (y -es) aa aa ad ad) ?_;refine dA (λ_ _ d=>apC (es:=es) (d.jW 0) (d.jW 1) Ll s0 alb acD) ?_;refine fJ (ai ao) ?_;refine aJ ?_;refine bQ λnn d=>?_;replace d:=d.drop 7;replace d:=d.drop 7;refine cx ?_;refine bN d [0,16] (λi _=>match i with|0=>ai az|16=>ai az|_=>a1) (λ_ _=>emp) (λ_=>[]) (λ|6=>[5]|13=>[5]|16=>[0,2]|_=>[]) (λ_=>[]) [0,1,2,3,4,5,6,7,23] (λl=>?_);refine dA (λwl _ d=>B7 wl d.only) ?_;refine np ?_;refine dl 0 72 ?_ (hv:=fv (k:=5) bD aa);refine aJ ?_;refine aK _ (λ_ _ _=>Bl 22 5 1 _ _ _ aa dK aw Vr y Zk N fs (fs -N) aa aa aa ad ad) ?_;refine hG ?_;refine dl 0 72 ?_ (hv:=fv (k:=5) bD aa);refine aJ ?_;refine aK _ (λ_ _ _=>Bl 22 5 1 _ _ _ aa dK aw BE y Cx N fs (fs -N) aa aa aa ad ad) ?_;refine dA (λ_ _ d=>apA (lo:=N) (hi:=fs) (d.jW 0) (d.jW 1) Ll s0 ad alc acD) ?_;refine bx ?_;refine bQ λpO d=>?_;replace d:=d.drop 7;replace d:=d.drop 7;go_wp2_with fail;go_ret;exact⟨aa,d.only⟩
end
end Go.Proofs.YtcmhplknoglbkaaGreat
