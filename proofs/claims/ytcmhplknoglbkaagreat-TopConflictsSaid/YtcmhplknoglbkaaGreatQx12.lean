/- Part 12 of the proof of TopConflictsSaid. -/
import Derived.Test.YtcmhplknoglbkaaGreatQx0
import Derived.Test.YtcmhplknoglbkaaGreatQx3
import Derived.Test.YtcmhplknoglbkaaGreatQx4
import Derived.Test.YtcmhplknoglbkaaGreatQx5
import Derived.Test.YtcmhplknoglbkaaGreatQx6
import Derived.Test.YtcmhplknoglbkaaGreatQx8
import Derived.Test.YtcmhplknoglbkaaGreatQx9
import Derived.Test.YtcmhplknoglbkaaGreatQx10
import Derived.Test.YtcmhplknoglbkaaGreatQx11
set_option linter.all false
set_option maxRecDepth 100000
set_option maxHeartbeats 4000000
open Go.Proofs.Tryz
open Array renaming size->ja
open Bool renaming false->ao,true->az,true_and->Bi
open Go renaming Addr->bQ,Calls->aD,Value->aO,execOp->bt,undef->a1,wpList_nil->an,wp_region_lit->cm
open Go.Ending renaming returned->aB
open Go.IntKind renaming i64->R,u64->aH
open Go.Operand renaming tmp->bj
open Go.Proofs.Tryz renaming func42->Bp,func8->zx,ntmps42->Br,ntmps8->zy,prog->aw,underlying118->sw,underlying22->dL,underlying24->eA,underlying73->fy,underlying82->hR,underlying98->J5
open Go.Proofs renaming intOf->cO
open Go.Result renaming andThen_ok->jc
open Go.RowKit renaming Hid->aE
open Go.Sem renaming run_bind->ga,run_pure->jK
open Go.Value renaming agg->av,bool->ai,int->J,map->dj,pointer->ax,slice->ae,tuple->bm
open Int renaming add_mul->ajV,le_of_lt->Ea,mul_le_mul_of_nonneg_right->XM,one_mul->ajZ,toNat_natCast->wK
open List.Perm renaming swap->yp
open List renaming any_eq_false->XQ,append_assoc->j0,append_nil->j1,drop_zero->Hd,ext_getElem?->rH,filter_eq_nil_iff->Hg,flatMap_def->aka,foldl_cons->tO,getElem?_drop->vj,getElem?_eq_getElem->cC,getElem?_eq_none->zU,getElem?_eq_some_iff->e5,getElem?_map->lr,getElem?_range->QS,getElem?_take->om,getElem_mem->Ed,length_append->c',length_cons->js,length_eq_zero_iff->QT,length_range->BO,length_replicate->pN,length_singleton->rI,length_take->nJ,map_append->gp,map_nil->kp,mem_cons->gF,mem_flatMap->Ee,mem_iff_getElem->KI,mem_iff_getElem?->qM,mem_map->fL,mem_of_getElem?->cY,mem_range->kq,mem_take_iff_getElem->XV,nil_append->lK,not_mem_nil->fQ,pairwise_iff_getElem->l5,pairwise_map->ys,range->dG,range_succ->pQ,replicate->eU,take_add_one->gg,take_length->kH,take_take->QU
open Nat renaming add_mul->tR,div_add_mod->QV,div_le_div_right->QW,le_refl->b4,le_trans->ea,lt_trichotomy->QY,min_eq_left->wQ,mod_lt->KK,mul_add->akl,mul_comm->Ef,mul_div_le->akm,mul_le_mul->Eg,mul_le_mul_right->o2,one_mul->Eh,succ_mul->tT,zero_add->jt,zero_le->cF
open Option renaming none->af,some->ab,toList_some->z1
open Or renaming inl->bM,inr->b8
namespace Go.Proofs.YtcmhplknoglbkaaGreat
namespace G
open Go.RowKit Go.MapKept
section
variable {w w':World} {F G:Nat->Prop} {b:Nat} {n:Int} {E:List (Int×Int)} {A:Option bQ} {c:Nat}
end
end G
section
open Go.RowKit Go.MapKept
attribute [local irreducible] wpList cM
def Nh(m y:bJ):Int:=if m.k=1 then(kR (src m) (ck y)).2 else 0
def sV(ms:List bJ)(i j:Nat):Bool:=match ms[i]?,ms[j]? with
 |some m,ab y=>decide (i≠j)&&(decide (m.k=1)&&meets (src m) (ck y))
 |_,_=>ao
def q8(ms:List bJ)(i j:Nat):List (Int×Int):=((dG j).filter (sV ms i)).map (λj:Nat=>((i:Int),(j:Int)))
def nk(ms:List bJ)(i:Nat):List (Int×Int):=(dG i).flatMap (λi=>q8 ms i ms.length)
def aex ms i:nk ms (i+1)=nk ms i++q8 ms i ms.length:=by simp[nk,pQ]
def aeJ{ms i j}(h:sV ms i j=az):q8 ms i (j+1)=q8 ms i j++[((i:Int),(j:Int))]:=by grind[q8,pQ]
def Nk{ms i j}(h:sV ms i j=ao):q8 ms i (j+1)=q8 ms i j:=by grind[q8,pQ]
def aur ms(i j):(q8 ms i j).length<=j:=by grind[q8]
def aew ms:∀i,(nk ms i).length<=i*ms.length
 |0=>by simp[nk]
 |i+1=>by rw[aex,c',tT];have h1:=aew ms i;have a:=aur ms i ms.length;omega
def auu(m y)(d f)(g h)w(r:m.k=1->et (src m))(s:et (ck y)):
 aD aw 83 #[l6 m d g,l6 y f h] w λe w'=>e=aB (J R (Nh m y))/\ar w w':=by
 unfold Nh;by_cases hk:m.k=1;·rw[if_pos hk];obtain⟨fB,l,p⟩:∃a b,kR (src m) (ck y)=(a,b):=⟨_,_,aa⟩;have t:aE (∀W,aD _ _ _ W λe w'=>e=aB (av #[J _ fB,J _ l])/\ar W w'):=hid (λW=>by have q:=aeI _ _ _ _ W (r hk) s;rw[show kR (m.fr,m.n) (y.to,b5 y)=(fB,l)from p]at q;exact q);rw[p];simp only;have A:=hid (λW=>aeM m d g W);have u:=hid (λW=>Jd y f h W);obtain⟨fg,v⟩:=ex (b5 y);rw[v]at t u;have o:=hid hk;clear r s p hk v;go_enter Tryz.func83,Tryz.ntmps83;have c:=bc w;go_step;refine ah ?_;refine bG (cs:=#[J _ _,J _ _,J _ _,J _ _,ae d _ g]) c _ (λx w1 c=>?_);refine bG (cs:=#[J _ _,J _ _,J _ _,J _ _,ae f _ h]) c _ (λz C c=>?_);refine cK ?_;refine pl c 1 0 ?_;refine di o (ai ao) ?_;refine cx ?_;refine bN c [1,3,4] (λi _=>match i with|1=>av #[J R m.fr,J R m.n]|3=>av #[J R y.to,J R fg]|4=>av #[J R fB,J R l]|_=>a1) (λ_ _=>emp) (λ_=>[]) (λ|0=>[1]|2=>[0]|_=>[]) (λ_=>[]) [0,1,3,5,6] (λB=>?_);refine eI 0 #[J R m.k,J R m.to,J R m.fr,J R m.n,ae d m.data.length g] ?_;refine dD (λj _ _=>A j) ?_;refine eI 0 #[J R y.k,J R y.to,J R y.fr,J R y.n,ae f y.data.length h] ?_;refine dD (λj _ _=>u j) ?_;refine dD (λj _ _=>t j) ?_;refine gZ (J R l) ?_;refine aK ?_;refine bU λD c=>?_;replace c:=c.drop 2;replace c:=c.drop 2;replace c:=c.drop 2;go_wp2_with fail;go_ret;exact⟨aa,c.only⟩
 .rw[if_neg hk];have o:=hid hk;clear hk r s;go_enter Tryz.func83,Tryz.ntmps83;have c:=bc w;go_step;refine ah ?_;refine bG (cs:=#[J _ _,J _ _,J _ _,J _ _,ae d _ g]) c _ (λx E c=>?_);refine bG (cs:=#[J _ _,J _ _,J _ _,J _ _,ae f _ h]) c _ (λz F c=>?_);refine cK ?_;refine pl c 1 0 ?_;refine di o (ai az) ?_;refine ah ?_;refine ag ?_;refine an ?_;go_wp2_with fail;go_ret;exact⟨aa,c.only⟩
def auk A c ms w(hl:cX w A ms)(dR:ms.length<=1000)(hv:∀m∈ms,gW m/\(m.k=1->et (src m))):
 aD aw 31 #[ae A ms.length c] w λe w'=>∃b,e=aB (ax (ab ⟨b,0,af⟩))/\∃K U,cf w w' (bK [aj b #[J R (ms.length:Int),ae K (nk ms ms.length).length U] 169,bk K (nk ms ms.length).length U 174 2 (jN (nk ms ms.length))]):=by
 have P:=hid hl;have T:=hid hv;clear hl hv;go_enter func31,ntmps31;have a:=bc w;go_step;refine ah ?_;refine mO ?_;refine pk (av #[J R (ms.length:Int),ae af 0 0]) ?_;refine bG (cs:=#[J _ _,ae _ 0 0]) a _ (λo w1 a=>?_);refine bP ?_;replace a:=a.new (bk af 0 0 174 2 []) ⟨au.refl _ _,Row.nil _ _ _ _,λb ⟨_,_,e⟩=>aF⟩;refine ah ?_;refine ag ?_;refine an ?_;have f:=a.pk [1,0];go_wp2_with fail;go_loopw [4] (λG wr=>∃(i q:Nat) (aJ:Option bQ) (c2:Nat),i<=ms.length/\aE ((nk ms i).length=q)/\q<=i*ms.length/\G=J R (i:Int)/\ak w (λ_=>False) wr [aj o #[J R (ms.length:Int),ae aJ q c2] 169,bk aJ q c2 174 2 (jN (nk ms i))]) (λG wr=>ms.length -(cO G).toNat);case atStart=>exact⟨0,0,_,0,cF _,hid aa,cF _,aa,f⟩
 case round=>
  clear a f;obtain⟨i,q,aJ,c2,hi,Q,abT,rfl,a⟩:=hrel;by_cases hlt:i<ms.length
  .have cN:(i:Int)<(ms.length:Int):=ad;have CL:(i+1)*ms.length<=1000*1000:=Eg ad dR;rw[tT]at CL;obtain⟨m,E⟩:∃m,ms[i]?=ab m:=⟨_,cC hlt⟩;obtain⟨r,bS,aR,aT,V,Y,Z⟩:=cX.ji P E;have L:=hid V;have iR:=hid Y;have N:=hid Z;have x:=hid E;clear V Y Z E;go_step;refine ah ?_;refine v3 ?_;refine bu (ai az) ?_;refine ah ?_;refine ag ?_;refine an ?_;have f:=a;rw[show nk ms i=nk ms i++q8 ms i 0 from(j1 _).symm]at f;go_wp2_with fail;go_loopw [5] (λH wr=>∃(j s:Nat) (aJ:Option bQ) (c2:Nat),j<=ms.length/\aE ((nk ms i++q8 ms i j).length=s)/\s<=q+j/\H=J R (j:Int)/\ak w (λ_=>False) wr [aj o #[J R (ms.length:Int),ae aJ s c2] 169,bk aJ s c2 174 2 (jN (nk ms i++q8 ms i j))]) (λH wr=>ms.length -(cO H).toNat);case atStart=>exact⟨0,q,aJ,c2,cF _,hid (by rw[show q8 ms i 0=[]from aa,j1];exact Q),b4 _,aa,f⟩
   case round=>
    clear a f;obtain⟨j,s,aJ,c2,hj,l,aqa,rfl,a⟩:=hrel;by_cases D:j<ms.length
    .have SE:(j:Int)<(ms.length:Int):=ad;obtain⟨y,F⟩:∃y,ms[j]?=ab y:=⟨_,cC D⟩;obtain⟨t,pq,xW,mb,X,_,xa⟩:=cX.ji P.out F;have M:=hid X;have O:=hid xa;have C:=hid F;clear F X xa;go_step;refine ah ?_;refine v3 ?_;refine bu (ai az) ?_;refine an ?_;by_cases n:i=j
     .have d:aE (sV ms i j=ao):=hid (by unfold sV;rw[x,C];simp[n]);have p:aE (((i:Int)!=(j:Int))=ao):=hid (by subst n;simp);clear n;refine cx ?_;refine bN a [] (λ_ _=>a1) (λ_ _=>emp) (λ_=>[]) (λ_=>[]) (λ_=>[]) [0,1] (λus=>?_);refine bF ?_;refine aN (ai ao) (λ_ _ _=>by(have h:=p.out;go_simp;try simp[h])) ?_;refine aK ?_;iterate 10 refine ds ?_
      refine aK ?_;refine bU λaW a=>?_;refine b' ?_;refine pad (j:Int) 1 ((j+1:Nat):Int) ?_;refine bP ?_;go_wp2_with fail;go_roundw;case rel=>exact⟨j+1,s,aJ,c2,ad,hid (by rw[Nk d];exact l),ad,aa,by rw[Nk d];exact a.pick [0,1]⟩
      case measure=>simp[cO]<;>omega
     .have p:aE (((i:Int)!=(j:Int))=az):=hid (bne_iff_ne.2 ad);have lz:=T m (cY x);have Iz:=T y (cY C);obtain⟨z,hz⟩:=ex (Nh m y);have S:aE (∀W,aD _ 83 #[av _,av _] W λe w'=>e=aB (J _ z)/\ar W w'):=hid (λW=>by rw[<-hz];exact auu m y aR xW aT mb W lz.2 Iz.1.F')
      have v:sV ms i j=decide (z>0):=by
       unfold sV;rw[x,C,<-hz];unfold Nh;by_cases hk:m.k=1
       .rw[if_pos hk];simp only[n,hk,ne_eq,not_false_eq_true,decide_true,Bi];cases k4:meets (src m) (ck y)with
        |true=>exact(decide_eq_true (TW.2 k4)).symm
        |false=>exact(decide_eq_false (λh=>by rw[TW.1 h]at k4;cases k4)).symm
       .rw[if_neg hk];simp[hk]
      clear hz lz Iz n;by_cases g:z>0
      .have d:aE (sV ms i j=az):=hid (by rw[v];exact decide_eq_true g);have B:=hid g;clear g v;refine cx ?_;refine bN a [12] (λi _=>match i with|12=>J R z|_=>a1) (λ_ _=>emp) (λ_=>[]) (λ_=>[]) (λ_=>[]) [0,1,14] (λus=>?_);refine bF ?_;refine aN (ai az) (λ_ _ _=>by(have h:=p.out;go_simp;try simp[h])) ?_;refine da ?_;refine aN _ (λ_ _ _=>cq 24 73 5 _ _ aa eA ay r bS _ c i _ (by show ae A _ _=_;rw[L]) aa hlt aa) ?_;refine aN _ (λ_ _ a=>by(refine eC 73 _ aa r _ aa _ (N _ a.only) fy aa ay)) ?_;refine bF ?_;refine aN _ (λ_ _ _=>cq 24 73 5 _ _ aa eA ay t pq _ c j _ (by show ae A _ _=_;rw[M]) aa D aa) ?_;refine aN _ (λ_ _ a=>eC 73 (bj 32) aa t (pq+j*5) aa _ (O _ a.only) fy aa ay) ?_;refine dD (λI _ _=>S I) ?_;refine aN (ai az) (λ_ _ _=>by(have h:=B.out;go_simp;try omega)) ?_;refine aK ?_;refine bU λbI a=>?_;replace a:=a.drop 2;refine n3 ?_;refine pl a 0 1 ?_;refine v3 ?_;refine fC a #[J R (i:Int),J R (j:Int)] 174 (λGm cc a=>?_);refine lZ (m:=1) a 2 16 (aU.cellsOf (m:=1) (a.aX 0) aa) (by intro u hu;simp at hu;rcases hu with rfl|rfl<;>rfl) (λaf9 alA cJ a=>?_) (hby:=by omega);refine v2 ?_;refine a' a 1 (ae _ _ _) (λc5 a=>?_);refine b' ?_;refine pad (j:Int) 1 ((j+1:Nat):Int) ?_;refine bP ?_;go_wp2_with fail;go_roundw;case rel=>exact⟨j+1,s+1,_,_,ad,hid (by rw[aeJ d,<-j0,c',l];rfl),ad,aa,by rw[aeJ d.out,<-j0,Lf];exact a.pick [1,2]⟩
       case measure=>simp[cO]<;>omega
      .have d:aE (sV ms i j=ao):=hid (by rw[v];exact decide_eq_false g);have B:=hid g;clear g v;refine cx ?_;refine bN a [12] (λi _=>match i with|12=>J R z|_=>a1) (λ_ _=>emp) (λ_=>[]) (λ_=>[]) (λ_=>[]) [0,1,14] (λus=>?_);refine bF ?_;refine aN (ai az) (λ_ _ _=>by(have h:=p.out;go_simp;try simp[h])) ?_;refine da ?_;refine aN _ (λ_ _ _=>cq 24 73 5 _ _ aa eA ay r bS _ c i _ (by show ae A _ _=_;rw[L]) aa hlt aa) ?_;refine aN _ (λ_ _ a=>by(refine eC 73 _ aa r _ aa _ (N _ a.only) fy aa ay)) ?_;refine bF ?_;refine aN _ (λ_ _ _=>cq 24 73 5 _ _ aa eA ay t pq _ c j _ (by show ae A _ _=_;rw[M]) aa D aa) ?_;refine aN _ (λ_ _ a=>eC 73 (bj 32) aa t (pq+j*5) aa _ (O _ a.only) fy aa ay) ?_;refine dD (λI _ _=>S I) ?_;refine aN (ai ao) (λ_ _ _=>by(have h:=B.out;go_simp;try omega)) ?_;refine aK ?_;refine bU λdK a=>?_;replace a:=a.drop 2;refine b' ?_;refine pad (j:Int) 1 ((j+1:Nat):Int) ?_;refine bP ?_;go_wp2_with fail;go_roundw;case rel=>exact⟨j+1,s,aJ,c2,ad,hid (by rw[Nk d];exact l),ad,aa,by rw[Nk d];exact a.pick [0,1]⟩
       case measure=>simp[cO]<;>omega
    .have SE:¬(j:Int)<(ms.length:Int):=ad;obtain rfl:j=ms.length:=ad;rw[<-aex]at a l;go_step;refine ah ?_;refine v3 ?_;refine bu (ai ao) ?_;refine b' ?_;refine pad (i:Int) 1 ((i+1:Nat):Int) ?_;refine bP ?_;go_wp2_with fail;go_roundw;case rel=>exact⟨_,s,aJ,c2,ad,l,by rw[tT];omega,aa,a.pick [0,1]⟩
     case measure=>simp[cO]<;>omega
  .have cN:¬(i:Int)<(ms.length:Int):=ad;obtain rfl:i=ms.length:=ad;go_step;refine ah ?_;refine v3 ?_;refine bu (ai ao) ?_;refine ah ?_;refine dZ ?_;go_wp2_with fail;go_ret;exact⟨o,aa,aJ,c2,by rw[Q];exact((a.pick (l':=[aj o _ _,bk aJ q c2 _ 2 _]) [0,1]).fv 2).fresh 0⟩
end
section
open Go.RowKit Go.MapKept
attribute [local irreducible] wpList cM
end
section
open Go.RowKit Go.MapKept
attribute [local irreducible] wpList cM
end
def an4{ms off}(h:¬uk ms off<0):∃m∈ms,hasB m off=true:=by grind[uk]
theorem sZ{m off}:hasB m off=az↔m.to<=off/\off<m.to+b5 m:=by grind[hasB]
def pS.fits{o n:Nat}{ms}(h:pS (o:Int) (n:Int) ms):∀m∈ms,mP o n m:=λm a=>afj (h.bw m a)
def pS.lays{o n:Nat}{ms}(h:pS (o:Int) (n:Int) ms):Lays n (ms.map ck):=by
 have c:∀m∈ms,0<=m.to/\0<b5 m/\m.to+b5 m<=(n:Int):=λm a=>by obtain⟨h1,_,d⟩:=h.fits m a;exact⟨h1.ck.1,h1.ck.2.1,d⟩
 have f:=λt b hlt=>by have h1:=h.Z5 t b;unfold oA at h1;rw[decide_eq_true hlt,Bi]at h1;exact an4 (of_decide_eq_false h1)
 refine⟨λx hx=>?_,?_,λhn=>?_,λx hx hlt=>?_⟩;·obtain⟨m,a,rfl⟩:=fL.1 hx;exact c m a
 .rw[ys,l5];intro i j hi g l;have h1:=h.ap j i _ _ l (cC g) (cC hi);have q:=c _ (Ed hi);have d:=c _ (Ed g);unfold meets at h1;have k:=of_decide_eq_false h1;simp only[ck]at k⊢;omega
 .obtain⟨m,a,h1⟩:=f 0 (cF _) (by show(0:Int)<n;omega);exact⟨_,fL.2 ⟨m,a,aa⟩,sZ.1 h1⟩
 .obtain⟨m,a,rfl⟩:=fL.1 hx;obtain⟨t,b⟩:=qM.1 a;have e:FE ms (t+1)=m.to+b5 m:=by simp only[FE,b]
  obtain⟨y,p,h1⟩:=f (t+1) (e5.1 b).1 (by rw[e];exact hlt);rw[e]at h1;exact⟨_,fL.2 ⟨y,p,aa⟩,sZ.1 h1⟩
def pS.sg{o n:Nat}{ms}(h:pS (o:Int) (n:Int) ms)(a:ms.length<=20):vp o n ms:=
 ⟨h.bd.2.1,h.bd.2.2,h.fits,av0 h.lays h.bd.2.2,a⟩
def aft{n ms}(h:Lays n (ms.map ck))i(a:0<=i):∀k,k<=(hQ ms).length->i<ij ((hQ ms).take k)->∃m∈ms,hasB m i=az
 |0,_,hi=>by grind[ij]
 |k+1,hk,hi=>by
  obtain⟨x,hx⟩:∃x,(hQ ms)[k]?=ab x:=⟨_,cC ad⟩;have h1:=((Fm (h.perm (F4 ms).symm) (Dd ms) _ hk).1 k x ad hx).1;have b:=Cc hx;by_cases hlt:i<ij ((hQ ms).take k);·exact aft h i a k ad hlt
  .have c:=(F4 ms).mem_iff.1 (fL.2 ⟨x,cY hx,aa⟩);grind[ck,sZ]
def Lays.Y4{n}{ms:List bJ}(h:Lays n (ms.map ck))i(hi:i<n):∃m∈ms,hasB m (i:Int)=true:=by have h1:=Tu (h.perm (F4 ms).symm) (Dd ms);exact aft h (i:Int) ad (hQ ms).length (b4 _) aF
def Lays.jE{n ms}(h:Lays n (ms.map ck)){m}(c:m∈ms){x}(hx:hasB m x=az)old:jE old ms x=wW old x m:=by
 unfold Go.Proofs.YtcmhplknoglbkaaGreat.jE;have f:(ms.find? (λm=>hasB m x)).isSome=true:=List.find?_isSome.2 ⟨m,c,hx⟩;obtain⟨y,a⟩:=Option.isSome_iff_exists.1 f;rw[a];have d:=List.find?_some a;have g:=List.mem_of_find?_eq_some a;simp only at d⊢;suffices e:y=m by rw[e]
 obtain⟨i,hi,rfl⟩:=KI.1 c;obtain⟨j,o,rfl⟩:=KI.1 g;have l:=l5.1 (ys.1 h.apart);have h1:=sZ.1 hx;have k:=sZ.1 d;rcases QY i j with b|b|b;·grind[ck]
 .grind
 .grind[ck]
def atk{o n old ms}(ho:old.length=o)(h:Lays n (ms.map ck)){m}(c:m∈ms)(b:mP o n m)(q:Nat)(e:m.to=(q:Int)):hX old m=(dG (hX old m).length).map (λj:Nat=>jE old ms ((q+j:Nat):Int)):=by
 refine rH λj=>?_;by_cases a:j<(hX old m).length
 .have d:=Ri b ho;rw[lr,QS a];simp only[Option.map_some];rw[h.jE c (sZ.2 ⟨ad,ad⟩) _];unfold wW;unfold hX at a⊢;by_cases hk:m.k=1;·rw[if_pos hk]at a⊢;rw[if_pos hk,show(m.fr+((q+j:Nat):Int) -m.to).toNat=m.fr.toNat+j by have:=(b.1.copy hk).1;omega];grind
  .grind
 grind
def aea{o n old ms}(ho:old.length=o)(h:Lays n (ms.map ck))(b:∀m∈ms,mP o n m):∀k,k<=(hQ ms).length->∃e:Nat,ij ((hQ ms).take k)=(e:Int)/\(sb ms ((hQ ms).take k)).flatMap (hX old)=l1 old ms e
 |0,_=>⟨0,aY,aY⟩
 |k+1,hk=>by
  obtain⟨e,l,f⟩:=aea ho h b k ad;obtain⟨x,hx⟩:∃x,(hQ ms)[k]?=ab x:=⟨_,cC ad⟩;have h1:=((Fm (h.perm (F4 ms).symm) (Dd ms) _ hk).1 k x ad hx).1;have j:=Cc hx;have g:=afs (cY hx);obtain⟨m,a⟩:∃m,ms[x.1]?=ab m:=⟨_,cC g⟩;have c:=cY a
  have p:x.2.1=m.to/\x.2.2=b5 m:=by obtain⟨i,_,rfl⟩:=fL.1 (cY hx);simp only at a;simp[nr,MH,a]
  have hbl:=Ri (b m c) ho;have d:=atk ho h c (b m c) e ad;refine⟨e+(hX old m).length,ad,?_⟩;rw[gg,hx,z1,ae4 a,List.flatMap_append,f];simp;rw[d];unfold l1;rw[List.range_add,gp,List.map_map,List.length_map,BO];rfl
def ats{o n old ms}(ho:old.length=o)(h:Lays n (ms.map ck))(b:∀m∈ms,mP o n m):vW old ms=l1 old ms n:=by obtain⟨e,h1,a⟩:=aea ho h b (hQ ms).length (b4 _);rw[kH]at h1 a;rw[Tu (h.perm (F4 ms).symm) (Dd ms)]at h1;obtain rfl:n=e:=ad;rw[ae3]at a;exact a
theorem FH{a b q i}(h:q+b.length<=a.length)(h1:q<=i)(c:i<q+b.length):(gv a q b)[i]?=b[i -q]?:=by grind[gv]
theorem C1{a b q i}(h:q+b.length<=a.length)(h1:i<q\/q+b.length<=i):(gv a q b)[i]?=a[i]?:=by
 unfold gv;rcases h1 with h1|h1;·grind
 .rw[List.getElem?_append_right aF,c',nJ,wQ ad,vj];congr 1;omega
def QZ(n:Int)(e:Int×Int):Prop:=(0<=e.1/\e.1<n)/\(0<=e.2/\e.2<n)/\e.1≠e.2
def arS{n E e x}:x∈G.pU n E e↔x∈E\/(x=e/\QZ n e):=by grind[G.pU,QZ,G.canAdd,G.qe]
def adh{n x}:∀{l E},x∈G.ju n E l↔x∈E\/(x∈l/\QZ n x)
 |[],E=>by simp[G.ju]
 |e::r,E=>by
  have h:G.ju n E (e::r)=G.ju n (G.pU n E e) r:=rfl;rw[h,adh,arS];constructor
  .rintro((h|⟨rfl,h⟩)|⟨h1,h2⟩);·exact bM h
   .exact b8 ⟨a8,h⟩
   .exact b8 ⟨by simp[h1],h2⟩
  .rintro(h|⟨h1,h2⟩);·exact bM (bM h)
   .rcases gF.1 h1 with rfl|h1;·exact bM (b8 ⟨aa,h2⟩)
    .exact b8 ⟨h1,h2⟩
theorem Cd{ms i j}:sV ms i j=az↔∃m y,ms[i]?=ab m/\ms[j]?=ab y/\i≠j/\m.k=1/\meets (src m) (ck y)=true:=by grind[sV]
def DC(ms:List bJ)(e:Int×Int):Prop:=∃i j:Nat,e=((i:Int),(j:Int))/\sV ms i j=az
theorem Zv{ms i j}(h:sV ms i j=az):i<ms.length/\j<ms.length/\i≠j:=by grind[Cd]
def TB{ms e}:e∈nk ms ms.length↔DC ms e:=by unfold nk q8 DC;grind[Zv]
def arT{ms S}(p:S.Perm (iH (ms.map ck))){e}:e∈ua ms S↔DC ms e:=by
 unfold ua;rw[adh]
 have o:∀i j:Nat,i<ms.length->(((i:Int),(j:Int))∈yH ms S i↔∃m y,ms[i]?=ab m/\ms[j]?=ab y/\m.k=1/\meets (src m) (ck y)=az):=λi j hi=>by
  obtain⟨m,c⟩:∃m,ms[i]?=ab m:=⟨_,cC hi⟩;by_cases hk:m.k=1
  .rw[Rx c hk];unfold FO parts;simp only[fL,List.mem_filter];constructor
   .rintro⟨_,⟨_,⟨x,⟨hx,k4⟩,rfl⟩,rfl⟩,e⟩;injection e with bB bY;obtain⟨k,h1,d⟩:=AP.1 (p.mem_iff.1 hx);have:k=j:=ad;subst this;rw[lr]at h1;cases hy:ms[k]? with
    |none=>grind
    |some y=>
     rw[hy]at h1;injection h1 with h1;exact⟨m,y,c,aa,hk,by rw[h1,Fw];exact k4⟩
   .rintro⟨aV,y,L1,hy,_,k4⟩;rw[c]at L1;injection L1 with L1;subst L1;exact⟨(j:Int),⟨((j:Int),kR (ck y) (m.fr,m.n)),⟨(ck y,(j:Int)),⟨p.mem_iff.2 (AP.2 ⟨j,aF,aa⟩),by rw[Fw];exact k4⟩,aa⟩,aa⟩,aa⟩
  grind[Ry]
 constructor
 .rintro(h|⟨h,h1,d,l⟩);·grind
  .unfold l8 at h;obtain⟨i,hi,c⟩:=Ee.1 h;have hi':=kq.1 hi;obtain⟨a,b⟩:=e;simp only at h1 d l;obtain⟨j,rfl⟩:=Int.eq_ofNat_of_zero_le d.1
   have r:a=(i:Int):=by
    obtain⟨m,s⟩:∃m,ms[i]?=ab m:=⟨_,cC hi'⟩;by_cases hk:m.k=1;·rw[Rx s hk]at c;unfold FO at c;grind
    .grind[Ry]
   subst r;obtain⟨m,y,g1,g2,g,f⟩:=(o i j hi').1 c;exact⟨i,j,aa,Cd.2 ⟨m,y,g1,g2,ad,g,f⟩⟩
 .rintro⟨i,j,rfl,he⟩;obtain⟨h1,d,l⟩:=Zv he;obtain⟨m,y,g1,g2,g,f,q⟩:=Cd.1 he;refine b8 ⟨Ee.2 ⟨i,kq.2 h1,(o i j h1).2 ⟨m,y,g1,g2,f,q⟩⟩,⟨?_,?_,?_⟩⟩<;>simp only<;>omega
def pS.ama{o n:Nat}{ms}(h:pS (o:Int) (n:Int) ms)(p:ms.length<=20):Dy ms:=
 ⟨ad,⟨λe k=>by
   obtain⟨m,f,rfl⟩:=fL.1 k;have h1:=(h.fits m f).1.ck;exact⟨⟨h1.1,Ea h1.2.1,h1.2.2⟩,h1.2.1⟩,λi j x y l hx c=>by
   rw[lr]at hx c;cases h1:ms[i]? with
   |none=>grind
   |some a=>
    cases d:ms[j]? with
    |none=>grind
    |some b=>
     rw[h1]at hx;rw[d]at c;injection hx with hx;injection c with c;rw[<-hx,<-c];exact h.ap i j a b l h1 d⟩,λm f hk=>by
   obtain⟨h1,d,g,_⟩:=(h.fits m f).1.copy hk;exact⟨h1,Ea d,g⟩⟩
section
open Go.RowKit Go.MapKept
attribute [local irreducible] wpList cM
structure OQ (s:Nat) (ms:List bJ):Prop where
 dI:ms.length<=30
 each:∀m∈ms,wY m=0/\m.data.length<=300/\yF s m<=300
 sum:yG s ms<=300
def atT m b(c s:Nat)w(r:1<=s)(h1:1<=b5 m)(j:b5 m<=4611686018427387904):
 aD aw 187 #[l6 m b c,J R (s:Int)] w λe w'=>e=aB (J R ((yF s m:Nat):Int))/\ar w w':=by
 unfold yF;obtain⟨z,hz⟩:=ex (b5 m);have i:aE (∀W,aD _ _ #[av _] W λe w'=>e=aB (J _ z)/\ar W w'):=hid (λW=>by rw[<-hz];exact Ja m b c W);rw[hz]at h1 j⊢;obtain⟨p,g⟩:∃p:Nat,z -1=(p:Int):=⟨(z -1).toNat,ad⟩;rw[g,wK];obtain⟨d,f⟩:=ex (p/s);have q:d<=p:=by rw[<-f];exact Nat.div_le_self _ _
 rw[f];have o:=hid g;have h:=hid f;clear hz f;have hsz:¬(s:Int)<1:=ad;go_enter func187,ntmps187;have a:=bc w;go_step;refine ah ?_;refine bG (cs:=#[J _ _,J _ _,J _ _,J _ _,ae b _ c]) a _ (λl w1 a=>?_);refine cK ?_;refine bu (ai ao) ?_;refine ah ?_;refine bh a 0 #[J R m.k,J R m.to,J R m.fr,J R m.n,ae b m.data.length c] ?_;refine bH (i _) a (λt a=>?_);refine lH z 1 _ ?_;refine ag ?_;refine aI _ (Ac 3 _ _ 3 aa p s d aa aa ad h ad) ?_;refine pad _ 1 ((d+1:Nat):Int) ?_;refine bP ?_;go_wp2_with fail;go_ret;exact⟨aa,a.only⟩
def auh s A c ms w(hs:1<=s)(hl:cX w A ms)(gr:ms.length<=1048576)(ho:∀m∈ms,qj m)b(hb:b=az↔OQ s ms):
 aD aw 97 #[J R (s:Int),ae A ms.length c] w λe w'=>e=aB (ai b)/\ar w w':=by
 have cH:=hid hl;have er:=hid ho;have n:=hid hb;clear hl ho hb;have hsz:¬(s:Int)<1:=ad;by_cases ay5:30<ms.length
 .have hz:(30:Int)<(ms.length:Int):=ad
  obtain rfl:b=false:=by
   cases b with
   |false=>rfl
   |true=>have h:=(n.1 aa).dI;omega
  go_enter Tryz.func97,Tryz.ntmps97;have a:=bc w;go_upto_region 0 with fail;refine cm ?_;refine ag ?_;refine an ?_;go_upto_region 1 with fail;refine cm ?_;refine v2 ?_;refine bu (ai az) ?_;refine ag ?_;iterate 2 refine ps ?_
  refine ag ?_;refine an ?_;go_upto_region 2 with fail;refine cm ?_;refine ag ?_;refine an ?_;go_wp2_with fail;go_ret;exact⟨aa,a.only⟩
 .have hz:¬(30:Int)<(ms.length:Int):=ad;go_enter Tryz.func97,Tryz.ntmps97;have a:=bc w;go_upto_region 0 with fail;refine cm ?_;refine ag ?_;refine an ?_;go_upto_region 1 with fail;refine cm ?_;refine v2 ?_;refine bu (ai ao) ?_;refine v2 ?_;refine bu (ai ao) ?_;refine ag ?_;refine an ?_;go_upto_region 3 with fail;refine cm ?_;refine ag ?_;refine an ?_;go_upto_region 4 with fail;refine cm ?_;refine ag ?_;refine an ?_;have V:=a;go_wp2_with fail;go_loopw [5,6] (λIU P wr=>∃j:Nat,j<=ms.length/\IU=J R ((yG s (ms.take j):Nat):Int)/\P=J R (j:Int)/\yG s (ms.take j)<=300*j/\aE (∀(i:Nat) (x:bJ),i<j->ms[i]?=ab x->wY x=0/\x.data.length<=300/\yF s x<=300)/\ak w (λ_=>False) wr []) (λIU P wr=>ms.length -(cO P).toNat);case atStart=>exact⟨0,cF _,aa,aa,b4 _,hid (λi x h=>absurd h (Nat.not_lt_zero _)),V⟩
  case round=>
   clear a V;obtain⟨j,hj,rfl,rfl,hsj,S,a⟩:=hrel;obtain⟨za,N⟩:=ex (yG s (ms.take j));rw[N]at hsj⊢;have I:=hid N;clear N;by_cases hlt:j<ms.length
   .have cN:(j:Int)<(ms.length:Int):=ad;obtain⟨m,v⟩:∃m,ms[j]?=ab m:=⟨_,cC hlt⟩;obtain⟨d,p,Q,X,Y,Z,dh⟩:=cX.ji cH v;have f:=hid Y;have iR:=hid Z;have k:=hid dh;have l:=hid v;clear Y Z dh v;go_upto_region 5 with fail;refine cm ?_;refine v3 ?_;refine bu (ai az) ?_;refine an ?_;have abO:=er m (cY l);have q:aE (∀W,aD _ _ #[av _] W λe w'=>e=aB _/\ar W w'):=hid (λW=>aeo m Q X W abO);obtain⟨gh,o⟩:=ex (wY m);rw[o]at q;have F:=hid o;clear abO o;by_cases o:gh=0
    .subst o;have T:aE (((0:Int)!=0)=ao):=hid aa;have s5:=Ru F;have D:=s5.ck;by_cases C:m.data.length>300
     .have t:(m.data.length:Int)>300:=ad;have z:=hid t;have E:=hid C;clear C t;go_upto_region 7 with fail;refine cm ?_;refine v2 ?_;refine aI _ (cq 24 73 5 _ _ aa eA ay _ _ _ _ _ _ (by show ae A _ _=_;rw[f]) aa hlt aa) ?_;refine aI _ (by(refine eC 73 _ aa d _ aa _ (k _ a.only) fy aa ay)) ?_;refine aP (q _) ?_;rintro e w1 ⟨rfl,g⟩;replace a:=a.aG g;refine aQ ?_;refine aI (ai ao) (by(go_simp;try simp)) ?_;refine v3 ?_;refine aI _ (cq 24 73 5 (bj 27) _ aa eA ay d p _ c j _ (by show ae A _ _=_;rw[f]) aa hlt aa) ?_;refine ag ?_;refine aI _ (po aa aa (k _ a.only 4 _ aa) ay) ?_;refine ag ?_;refine aI (ai az) (by(have h:=z.out;go_simp;try omega)) ?_;refine v2 ?_;iterate 7 refine ps ?_
      refine ag ?_;refine an ?_
      obtain rfl:b=false:=by
       cases b with
       |false=>rfl
       |true=>
        have h:=(n.1 aa).each m (cY l);have K:=E.out;omega
      go_upto_region 8 with fail;refine cm ?_;refine ag ?_;refine an ?_;go_wp2_with fail;go_ret;exact⟨aa,a.only⟩
     .have t:¬(m.data.length:Int)>300:=ad;have z:=hid t;have E:=hid C;clear C t;obtain⟨r,M⟩:=ex (yF s m);have G:aE (∀W,aD _ _ #[av _,J _ _] W λe w'=>e=aB (J _ (r:Int))/\ar W w'):=hid (λW=>by rw[<-M];exact atT m Q X s W hs (by have h:=D.2.1;omega) (by have h:=D.2.2;have K:=D.1;omega));have B:=hid M;clear M D s5;by_cases L:r>300
      .have u:(r:Int)>300:=ad;have H:=hid u;have U:=hid L;clear L u;go_upto_region 7 with fail;refine cm ?_;refine v2 ?_;refine aI _ (cq 24 73 5 _ _ aa eA ay _ _ _ _ _ _ (by show ae A _ _=_;rw[f]) aa hlt aa) ?_;refine aI _ (by(refine eC 73 _ aa d _ aa _ (k _ a.only) fy aa ay)) ?_;refine aP (q _) ?_;rintro e aW ⟨rfl,g⟩;replace a:=a.aG g;refine aQ ?_;refine aI (ai ao) (by(go_simp;try simp)) ?_;refine v3 ?_;refine aI _ (cq 24 73 5 (bj 27) _ aa eA ay d p _ c j _ (by show ae A _ _=_;rw[f]) aa hlt aa) ?_;refine ag ?_;refine aI _ (po aa aa (k _ a.only 4 _ aa) ay) ?_;refine ag ?_;refine aI (ai ao) (by(have h:=z.out;go_simp;try omega)) ?_;refine v4 ?_;refine aI _ (cq 24 73 5 (bj 36) _ aa eA ay d p _ c j _ (by show ae A _ _=_;rw[f]) aa hlt aa) ?_;refine aI _ (by(refine eC 73 _ aa d _ aa _ (k _ a.only) fy aa ay)) ?_;refine ag ?_;refine aP (G _) ?_;rintro e bI ⟨rfl,g⟩;replace a:=a.aG g;refine aQ ?_;refine aI (ai az) (by(have h:=H.out;go_simp;try omega)) ?_;refine ag ?_;refine an ?_
       obtain rfl:b=false:=by
        cases b with
        |false=>rfl
        |true=>
         have h:=(n.1 aa).each m (cY l);have K:=U.out;have h5:=B.out;omega
       go_upto_region 8 with fail;refine cm ?_;refine ag ?_;refine an ?_;go_wp2_with fail;go_ret;exact⟨aa,a.only⟩
      .have u:¬(r:Int)>300:=ad;have H:=hid u;have U:=hid L;clear u;go_upto_region 7 with fail;refine cm ?_;refine v2 ?_;refine aI _ (cq 24 73 5 _ _ aa eA ay _ _ _ _ _ _ (by show ae A _ _=_;rw[f]) aa hlt aa) ?_;refine aI _ (by(refine eC 73 _ aa d _ aa _ (k _ a.only) fy aa ay)) ?_;refine aP (q _) ?_;rintro e cc ⟨rfl,g⟩;replace a:=a.aG g;refine aQ ?_;refine aI (ai ao) (by(go_simp;try simp)) ?_;refine v3 ?_;refine aI _ (cq 24 73 5 (bj 27) _ aa eA ay d p _ c j _ (by show ae A _ _=_;rw[f]) aa hlt aa) ?_;refine ag ?_;refine aI _ (po aa aa (k _ a.only 4 _ aa) ay) ?_;refine ag ?_;refine aI (ai ao) (by(have h:=z.out;go_simp;try omega)) ?_;refine v4 ?_;refine aI _ (cq 24 73 5 (bj 36) _ aa eA ay d p _ c j _ (by show ae A _ _=_;rw[f]) aa hlt aa) ?_;refine aI _ (by(refine eC 73 _ aa d _ aa _ (k _ a.only) fy aa ay)) ?_;refine ag ?_;refine aP (G _) ?_;rintro e cJ ⟨rfl,g⟩;replace a:=a.aG g;refine aQ ?_;refine aI (ai ao) (by(have h:=H.out;go_simp;try omega)) ?_;refine ag ?_;refine an ?_;go_upto_region 9 with fail;refine cm ?_;refine v3 ?_;refine aI _ (cq 24 73 5 (bj 45) _ aa eA ay d p _ c j _ (by show ae A _ _=_;rw[f]) aa hlt aa) ?_;refine aI _ (by(refine eC 73 _ aa d _ aa _ (k _ a.only) fy aa ay)) ?_;refine ag ?_;refine aP (G _) ?_;rintro e c5 ⟨rfl,g⟩;replace a:=a.aG g;refine aQ ?_;refine pad _ _ ((za+r:Nat):Int) ?_;refine ag ?_;refine an ?_;go_upto_region 6 with fail;refine cm ?_;refine ag ?_;refine pad _ 1 ((j+1:Nat):Int) ?_;refine ag ?_;refine an ?_;go_wp2_with fail;go_roundw;case rel=>exact⟨j+1,ad,by rw[YY l,I,B];rfl,aa,by rw[YY l,I,B];omega,hid (λi y hi O=>by rcases Nat.lt_succ_iff_lt_or_eq.1 hi with h|rfl;exact S i y h O;rw[l]at O;cases O;exact⟨F,by have:=E.out;omega,by have:=B.out;omega⟩),a⟩
       case measure=>(simp only[cO,wK];omega)
    .have T:=hid (bne_iff_ne.2 o);go_upto_region 7 with fail;refine cm ?_;refine v2 ?_;refine aI _ (cq 24 73 5 _ _ aa eA ay _ _ _ _ _ _ (by show ae A _ _=_;rw[f]) aa hlt aa) ?_;refine aI _ (by(refine eC 73 _ aa d _ aa _ (k _ a.only) fy aa ay)) ?_;refine aP (q _) ?_;rintro e dK ⟨rfl,g⟩;replace a:=a.aG g;refine aQ ?_;refine di T (ai az) ?_;refine ag ?_;iterate 7 refine ps ?_
     refine v2 ?_;iterate 7 refine ps ?_
     refine ag ?_;refine an ?_
     obtain rfl:b=false:=by
      cases b with
      |false=>rfl
      |true=>
       have h:=(n.1 aa).each m (cY l);have K:=F.out;omega
     go_upto_region 8 with fail;refine cm ?_;refine ag ?_;refine an ?_;go_wp2_with fail;go_ret;exact⟨aa,a.only⟩
   .have cN:¬(j:Int)<(ms.length:Int):=ad;obtain rfl:j=ms.length:=ad
    have HB:aE (decide ((za:Int)<=300)=b):=hid (by have h0:=I.out;rw[kH]at h0;cases b with
     |true=>exact decide_eq_true (by have h:=(n.1 aa).sum;omega)
     |false=>exact decide_eq_false (λhle=>by have h:=n.2 ⟨ad,λm v=>by obtain⟨i,hi⟩:=qM.1 v;exact S i m (e5.1 hi).1 hi,ad⟩;cases h));go_upto_region 5 with fail;refine cm ?_;refine v3 ?_;refine bu (ai ao) ?_;refine an ?_;go_upto_region 10 with fail;refine cm ?_;refine ag ?_;refine di HB (ai b) ?_;refine ag ?_;refine an ?_;go_wp2_with fail;go_ret;exact⟨aa,a.only⟩
structure KR (bd o n:Int) (ms:List bJ):Prop where
 dI:ms.length<=20
 ho:o<=300
 hn:n<=300
 short:vy ms=az
 ok:pS o n ms
 jx:bd<=300
 cnt:1<=bd->OQ bd.toNat ms
def auw(bd o n)(g1 g2)A c ms w(k:cX w A ms)(ho:∀m∈ms,qj m)b(hb:b=az↔KR bd o n ms):
 aD aw 42 #[J R bd,eB o n g1 g2 (ae A ms.length c)] w λe w'=>e=aB (ai b)/\ar w w':=by
 obtain⟨v,hv⟩:∃v:Bool,v=az↔pS o n ms:=by
  by_cases h:pS o n ms;·exact⟨az,aF⟩
  .exact⟨ao,aF⟩
 have d:=hid hb;clear hb;by_cases C:20<ms.length
 .have hz0:(20:Int)<(ms.length:Int):=ad;clear k ho hv
  obtain rfl:b=false:=by
   cases b with
   |false=>rfl
   |true=>
    have h:=(d.1 aa).dI;omega
  go_enter Bp,Br;have a:=bc w;go_step;refine ah ?_;refine bG a (av (a7 o n g1 g2 (ae A ms.length c))) (λi w1 a=>?_);refine ag ?_;refine an ?_;go_step;refine ah ?_;refine ag ?_;refine pl a 0 66 ?_ (hv:=eH);refine ag ?_;refine bu (ai az) ?_;refine ag ?_;iterate 3 refine ps ?_
  refine v2 ?_;iterate 3 refine ps ?_
  refine v2 ?_;iterate 3 refine ps ?_
  refine v2 ?_;iterate 3 refine ps ?_
  refine v2 ?_;iterate 2 refine ps ?_
  refine ag ?_;refine an ?_;go_step;refine ah ?_;refine ag ?_;refine an ?_;go_wp2_with fail;go_ret;exact⟨aa,a.only⟩
 .have hz0:¬(20:Int)<(ms.length:Int):=ad;obtain⟨f,t⟩:=ex (vy ms);have j:aE (∀W,ar w W->aD aw 74 #[eB o n g1 g2 (ae A ms.length c)] W λe w'=>e=aB (ai f)/\ar W w'):=hid (λW g=>by rw[<-t];exact aeD o n g1 g2 A c ms W (k.aG g) ad);have p:aE (∀W,ar w W->aD aw 75 #[eB o n g1 g2 (ae A ms.length c)] W λe w'=>e=aB (ai v)/\ar W w'):=hid (λW g=>aeV o n g1 g2 A c ms W (k.aG g) ad ho v hv);have u:=hid hv;have r:=hid t;have z:=hid k;have B:=hid ho;clear k ho hv t;by_cases h1:300<o
  .skip
   obtain rfl:b=false:=by
    cases b with
    |false=>rfl
    |true=>
     have h:=(d.1 aa).ho;omega
   go_enter Bp,Br;have a:=bc w;go_step;refine ah ?_;refine bG a (av (a7 o n g1 g2 (ae A ms.length c))) (λi Q a=>?_);refine ag ?_;refine an ?_;go_step;refine ah ?_;refine ag ?_;refine pl a 0 66 ?_ (hv:=eH);refine ag ?_;refine bu (ai ao) ?_;refine v2 ?_;refine pl a 0 0 ?_ (hv:=ku);refine bu (ai az) ?_;refine v2 ?_;iterate 3 refine ps ?_
   refine v2 ?_;iterate 3 refine ps ?_
   refine v2 ?_;iterate 3 refine ps ?_
   refine v2 ?_;iterate 2 refine ps ?_
   refine ag ?_;refine an ?_;go_step;refine ah ?_;refine ag ?_;refine an ?_;go_wp2_with fail;go_ret;exact⟨aa,a.only⟩
  .skip;by_cases D:300<n
   .skip
    obtain rfl:b=false:=by
     cases b with
     |false=>rfl
     |true=>
      have h:=(d.1 aa).hn;omega
    go_enter Bp,Br;have a:=bc w;go_step;refine ah ?_;refine bG a (av (a7 o n g1 g2 (ae A ms.length c))) (λi T a=>?_);refine ag ?_;refine an ?_;go_step;refine ah ?_;refine ag ?_;refine pl a 0 66 ?_ (hv:=eH);refine ag ?_;refine bu (ai ao) ?_;refine v2 ?_;refine pl a 0 0 ?_ (hv:=ku);refine bu (ai ao) ?_;refine v3 ?_;refine pl a 0 1 ?_ (hv:=hZ);refine bu (ai az) ?_;refine v2 ?_;iterate 3 refine ps ?_
    refine v2 ?_;iterate 3 refine ps ?_
    refine v2 ?_;iterate 2 refine ps ?_
    refine ag ?_;refine an ?_;go_step;refine ah ?_;refine ag ?_;refine an ?_;go_wp2_with fail;go_ret;exact⟨aa,a.only⟩
   .skip;cases f with
    |false=>
     obtain rfl:b=false:=by
      cases b with
      |false=>rfl
      |true=>
       have h:=(d.1 aa).short;rw[r]at h;cases h
     go_enter Bp,Br;have a:=bc w;go_step;refine ah ?_;refine bG a (av (a7 o n g1 g2 (ae A ms.length c))) (λi U a=>?_);refine ag ?_;refine an ?_;go_step;refine ah ?_;refine ag ?_;refine pl a 0 66 ?_ (hv:=eH);refine ag ?_;refine bu (ai ao) ?_;refine v2 ?_;refine pl a 0 0 ?_ (hv:=ku);refine bu (ai ao) ?_;refine v3 ?_;refine pl a 0 1 ?_ (hv:=hZ);refine bu (ai ao) ?_;refine v2 ?_;refine bh a 0 (a7 o n g1 g2 (ae A ms.length c)) ?_ (hv:=(eW _)) (hk:=by omega) (hz:=(by rw[bW];rfl));refine aP (j _ a.only) ?_;rintro e V ⟨rfl,g⟩;replace a:=a.aG g;refine aQ ?_;refine pk (ai az) ?_;refine v2 ?_;iterate 3 refine ps ?_
     refine v2 ?_;iterate 2 refine ps ?_
     refine ag ?_;refine an ?_;go_step;refine ah ?_;refine ag ?_;refine an ?_;go_wp2_with fail;go_ret;exact⟨aa,a.only⟩
    |true=>
     cases v with
     |false=>
      obtain rfl:b=false:=by
       cases b with
       |false=>rfl
       |true=>
        have h:=(d.1 aa).ok;cases u.out.2 h
      go_enter Bp,Br;have a:=bc w;go_step;refine ah ?_;refine bG a (av (a7 o n g1 g2 (ae A ms.length c))) (λi X a=>?_);refine ag ?_;refine an ?_;go_step;refine ah ?_;refine ag ?_;refine pl a 0 66 ?_ (hv:=eH);refine ag ?_;refine bu (ai ao) ?_;refine v2 ?_;refine pl a 0 0 ?_ (hv:=ku);refine bu (ai ao) ?_;refine v3 ?_;refine pl a 0 1 ?_ (hv:=hZ);refine bu (ai ao) ?_;refine v2 ?_;refine bh a 0 (a7 o n g1 g2 (ae A ms.length c)) ?_ (hv:=(eW _)) (hk:=by omega) (hz:=(by rw[bW];rfl));refine aP (j _ a.only) ?_;rintro e Y ⟨rfl,g⟩;replace a:=a.aG g;refine aQ ?_;refine pk (ai ao) ?_;refine v2 ?_;refine bh a 0 (a7 o n g1 g2 (ae A ms.length c)) ?_ (hv:=(eW _)) (hk:=by omega) (hz:=(by rw[bW];rfl));refine aP (p _ a.only) ?_;rintro e Z ⟨rfl,g⟩;replace a:=a.aG g;refine aQ ?_;refine pk (ai az) ?_;refine v2 ?_;iterate 2 refine ps ?_
      refine ag ?_;refine an ?_;go_step;refine ah ?_;refine ag ?_;refine an ?_;go_wp2_with fail;go_ret;exact⟨aa,a.only⟩
     |true=>
      by_cases E:300<bd
      .skip
       obtain rfl:b=false:=by
        cases b with
        |false=>rfl
        |true=>
         have h:=(d.1 aa).jx;omega
       go_enter Bp,Br;have a:=bc w;go_step;refine ah ?_;refine bG a (av (a7 o n g1 g2 (ae A ms.length c))) (λi eY a=>?_);refine ag ?_;refine an ?_;go_step;refine ah ?_;refine ag ?_;refine pl a 0 66 ?_ (hv:=eH);refine ag ?_;refine bu (ai ao) ?_;refine v2 ?_;refine pl a 0 0 ?_ (hv:=ku);refine bu (ai ao) ?_;refine v3 ?_;refine pl a 0 1 ?_ (hv:=hZ);refine bu (ai ao) ?_;refine v2 ?_;refine bh a 0 (a7 o n g1 g2 (ae A ms.length c)) ?_ (hv:=(eW _)) (hk:=by omega) (hz:=(by rw[bW];rfl));refine aP (j _ a.only) ?_;rintro e F ⟨rfl,g⟩;replace a:=a.aG g;refine aQ ?_;refine pk (ai ao) ?_;refine v2 ?_;refine bh a 0 (a7 o n g1 g2 (ae A ms.length c)) ?_ (hv:=(eW _)) (hk:=by omega) (hz:=(by rw[bW];rfl));refine aP (p _ a.only) ?_;rintro e G ⟨rfl,g⟩;replace a:=a.aG g;refine aQ ?_;refine pk (ai ao) ?_;refine v3 ?_;refine bu (ai az) ?_;refine ag ?_;refine an ?_;go_step;refine ah ?_;refine ag ?_;refine an ?_;go_wp2_with fail;go_ret;exact⟨aa,a.only⟩
      .skip;have l:=u.1 aa;have jx:=l.bd;have x:aE (∀W,aD aw 96 #[av #[J R 0,J R n]] W λe w'=>e=aB (ai az)/\ar W w'):=hid (λW=>by have q:=Ul 0 n W (by grind[c4]) (by grind[c4]);grind[nt]);clear jx;by_cases hb1:bd<1
       .obtain rfl:b=true:=d.2 ⟨ad,ad,ad,r,l,ad,λh=>ad⟩;clear l;go_enter Bp,Br;have a:=bc w;go_step;refine ah ?_;refine bG a (av (a7 o n g1 g2 (ae A ms.length c))) (λi H a=>?_);refine ag ?_;refine an ?_;go_step;refine ah ?_;refine ag ?_;refine pl a 0 66 ?_ (hv:=eH);refine ag ?_;refine bu (ai ao) ?_;refine v2 ?_;refine pl a 0 0 ?_ (hv:=ku);refine bu (ai ao) ?_;refine v3 ?_;refine pl a 0 1 ?_ (hv:=hZ);refine bu (ai ao) ?_;refine v2 ?_;refine bh a 0 (a7 o n g1 g2 (ae A ms.length c)) ?_ (hv:=(eW _)) (hk:=by omega) (hz:=(by rw[bW];rfl));refine aP (j _ a.only) ?_;rintro e I ⟨rfl,g⟩;replace a:=a.aG g;refine aQ ?_;refine pk (ai ao) ?_;refine v2 ?_;refine bh a 0 (a7 o n g1 g2 (ae A ms.length c)) ?_ (hv:=(eW _)) (hk:=by omega) (hz:=(by rw[bW];rfl));refine aP (p _ a.only) ?_;rintro e K ⟨rfl,g⟩;replace a:=a.aG g;refine aQ ?_;refine pk (ai ao) ?_;refine v3 ?_;refine bu (ai ao) ?_;refine ag ?_;refine an ?_;go_step;refine ah ?_;refine ag ?_;refine pl a 0 1 ?_ (hv:=hZ);refine ag ?_;refine aP (x _) ?_;rintro e L ⟨rfl,g⟩;replace a:=a.aG g;refine aQ ?_;refine v2 ?_;refine bu (ai az) ?_;refine ag ?_;iterate 4 refine ps ?_
        refine v3 ?_;refine an ?_;go_wp2_with fail;go_ret;exact⟨aa,a.only⟩
       .obtain⟨s,rfl⟩:∃s:Nat,bd=(s:Int):=⟨bd.toNat,ad⟩;have y:aE (b=az↔OQ s ms):=hid ⟨λh=>(d.1 h).cnt ad,λh=>d.2 ⟨ad,ad,ad,r,l,ad,λ_=>h⟩⟩;clear l;go_enter Bp,Br;have a:=bc w;go_step;refine ah ?_;refine bG a (av (a7 o n g1 g2 (ae A ms.length c))) (λi M a=>?_);refine ag ?_;refine an ?_;go_step;refine ah ?_;refine ag ?_;refine pl a 0 66 ?_ (hv:=eH);refine ag ?_;refine bu (ai ao) ?_;refine v2 ?_;refine pl a 0 0 ?_ (hv:=ku);refine bu (ai ao) ?_;refine v3 ?_;refine pl a 0 1 ?_ (hv:=hZ);refine bu (ai ao) ?_;refine v2 ?_;refine bh a 0 (a7 o n g1 g2 (ae A ms.length c)) ?_ (hv:=(eW _)) (hk:=by omega) (hz:=(by rw[bW];rfl));refine aP (j _ a.only) ?_;rintro e N ⟨rfl,g⟩;replace a:=a.aG g;refine aQ ?_;refine pk (ai ao) ?_;refine v2 ?_;refine bh a 0 (a7 o n g1 g2 (ae A ms.length c)) ?_ (hv:=(eW _)) (hk:=by omega) (hz:=(by rw[bW];rfl));refine aP (p _ a.only) ?_;rintro e O ⟨rfl,g⟩;replace a:=a.aG g;refine aQ ?_;refine pk (ai ao) ?_;refine v3 ?_;refine bu (ai ao) ?_;refine ag ?_;refine an ?_;go_step;refine ah ?_;refine ag ?_;refine pl a 0 1 ?_ (hv:=hZ);refine ag ?_;refine aP (x _) ?_;rintro e P ⟨rfl,g⟩;replace a:=a.aG g;refine aQ ?_;refine v2 ?_;refine bu (ai ao) ?_;refine v3 ?_;refine pl a 0 66 ?_ (hv:=eH);refine aP (auh s A c ms _ ad (z.out.aG a.only) ad B b y) ?_;rintro e S ⟨rfl,g⟩;replace a:=a.aG g;refine aQ ?_;refine v3 ?_;refine an ?_;go_wp2_with fail;go_ret;exact⟨aa,a.only⟩
end
section
open Go.RowKit Go.MapKept
attribute [local irreducible] wpList cM
def mq(a:List aO)(d:Array aO)(b:List aO):Array Value:=(a++(d.toList++b)).toArray
section
variable {a b:List aO} {d bD:Array aO} {k j m:Nat} {v:aO} {V:List aO}
theorem Uo:(mq a d b).size=a.length+(d.size+b.length):=by simp[mq]
theorem np(h:a[k]?=ab v):(mq a d b)[k]?=ab v:=by grind[mq]
def auX(h:d[k]?=ab v):(mq a d b)[a.length+k]?=ab v:=by grind[mq]
def jq(c:d.size=m)(h:b[k]?=ab v):(mq a d b)[a.length+(m+k)]?=ab v:=by grind[mq]
def qq:(mq a d b).extract a.length (a.length+d.size)=d:=by have h:=Lw (A:=a) (B:=d.toList) (C:=b) (L:=_) aa (k:=_) (m:=d.size) aa a8;rw[Array.toArray_toList]at h;exact h
def qs(h:bD.size<=d.size):a.length+bD.size<=(mq a d b).size:=by grind[Uo]
end
structure KN (ol:Nat) (o n sz bd mo:Int) (ms:List bJ):Prop where
 old:ol<=300
 xN:KR bd o n ms
 fit:o=(ol:Int)
 bd:1<=bd
 sz:1<=sz/\sz<=1000
 mo:0<=mo/\mo<=100
def aum(y A)(ol bZ c)(o n sz bd mo)(g1 g2)ms w(q:cX w A ms)(ho:∀m∈ms,qj m)b(hb:b=az↔KN ol o n sz bd mo ms):
 aD aw 8 #[av (mq [ae y ol bZ] (a7 o n g1 g2 (ae A ms.length c)) [J R sz,J R bd,J R mo])] w λe w'=>e=aB (J R (if b then 1 else 0))/\ar w w':=by
 obtain⟨f,s⟩:∃f,f=az↔KR bd o n ms:=by
  by_cases h:KR bd o n ms;·exact⟨az,aF⟩
  .exact⟨ao,aF⟩
 obtain⟨v,hv⟩:∃v,v=az↔pS o n ms:=by
  by_cases h:pS o n ms;·exact⟨az,aF⟩
  .exact⟨ao,aF⟩
 have j:=hid (λW g=>auw bd o n g1 g2 A c ms W (q.aG g) ho f s);have d:=hid hb;have r:=hid s;have B:=hid hv;clear hb s hv;by_cases C:300<ol
 .have hz0:(300:Int)<(ol:Int):=ad;clear q ho
  obtain rfl:b=false:=by
   cases b with
   |false=>rfl
   |true=>
    have h:=d.1 aa;have l:=h.old;omega
  go_enter zx,zy;have a:=bc w;go_step;refine ah ?_;refine bG a (av _) (λi w1 a=>?_);refine ag ?_;refine an ?_;go_step;refine ah ?_;refine ag ?_;refine pl a 0 0 ?_ (hv:=np (k:=0) aa);refine ag ?_;refine bu (ai az) ?_;refine ag ?_;iterate 6 refine ps ?_
  refine v2 ?_;iterate 6 refine ps ?_
  refine v2 ?_;iterate 3 refine ps ?_
  refine v2 ?_;iterate 3 refine ps ?_
  refine v2 ?_;iterate 3 refine ps ?_
  refine v2 ?_;iterate 3 refine ps ?_
  refine v2 ?_;iterate 3 refine ps ?_
  refine ag ?_;refine an ?_;go_step;refine ah ?_;refine ag ?_;refine an ?_;go_wp2_with fail;go_ret;exact⟨aa,a.only⟩
 .have hz0:¬(300:Int)<(ol:Int):=ad;cases f with
  |false=>
   clear q ho
   obtain rfl:b=false:=by
    cases b with
    |false=>rfl
    |true=>
     have h:=d.1 aa;cases r.out.2 h.xN
   go_enter zx,zy;have a:=bc w;go_step;refine ah ?_;refine bG a (av _) (λi V a=>?_);refine ag ?_;refine an ?_;go_step;refine ah ?_;refine ag ?_;refine pl a 0 0 ?_ (hv:=np (k:=0) aa);refine ag ?_;refine bu (ai ao) ?_;refine v2 ?_;refine pl a 0 69 ?_ (hv:=jq (k:=1) bW aa);refine ag ?_;refine bh a 0 _ ?_ (hv:=qq) (hk:=qs (b4 _)) (hz:=by rw[bW];rfl);refine aP (j _ a.only) ?_;rintro e bI ⟨rfl,g⟩;replace a:=a.aG g;refine aQ ?_;refine pk (ai az) ?_;refine v2 ?_;iterate 6 refine ps ?_
   refine v2 ?_;iterate 3 refine ps ?_
   refine v2 ?_;iterate 3 refine ps ?_
   refine v2 ?_;iterate 3 refine ps ?_
   refine v2 ?_;iterate 3 refine ps ?_
   refine v2 ?_;iterate 3 refine ps ?_
   refine ag ?_;refine an ?_;go_step;refine ah ?_;refine ag ?_;refine an ?_;go_wp2_with fail;go_ret;exact⟨aa,a.only⟩
  |true=>
   have D:=(r.1 aa).dI;obtain⟨t,x⟩:=ex ((vy ms&&v&&decide (o=(ol:Int))&&decide (n<=3000)));have p:aE (∀W,ar w W->aD _ 25 _ W λe w'=>e=aB (ai t)/\ar W w'):=hid (λW g=>by rw[<-x];exact aui y ol bZ o n g1 g2 A c ms W (q.aG g) ad ho v B);have z:=hid x;clear x q ho;cases t with
   |false=>
    obtain rfl:b=false:=by
     cases b with
     |false=>rfl
     |true=>
      have h:=d.1 aa;have l:=z.out;rw[h.xN.short,B.2 h.xN.ok,decide_eq_true h.fit,decide_eq_true (show n<=3000 from by have:=h.xN.hn;omega)]at l;cases l
    go_enter zx,zy;have a:=bc w;go_step;refine ah ?_;refine bG a (av _) (λi cc a=>?_);refine ag ?_;refine an ?_;go_step;refine ah ?_;refine ag ?_;refine pl a 0 0 ?_ (hv:=np (k:=0) aa);refine ag ?_;refine bu (ai ao) ?_;refine v2 ?_;refine pl a 0 69 ?_ (hv:=jq (k:=1) bW aa);refine ag ?_;refine bh a 0 _ ?_ (hv:=qq) (hk:=qs (b4 _)) (hz:=by rw[bW];rfl);refine aP (j _ a.only) ?_;rintro e cJ ⟨rfl,g⟩;replace a:=a.aG g;refine aQ ?_;refine pk (ai ao) ?_;refine v3 ?_;refine pl a 0 0 ?_ (hv:=np (k:=0) aa);refine ag ?_;refine bh a 0 _ ?_ (hv:=qq) (hk:=qs (b4 _)) (hz:=by rw[bW];rfl);refine aP (p _ a.only) ?_;rintro e c5 ⟨rfl,g⟩;replace a:=a.aG g;refine aQ ?_;refine pk (ai az) ?_;refine v2 ?_;iterate 3 refine ps ?_
    refine v2 ?_;iterate 3 refine ps ?_
    refine v2 ?_;iterate 3 refine ps ?_
    refine v2 ?_;iterate 3 refine ps ?_
    refine v2 ?_;iterate 3 refine ps ?_
    refine ag ?_;refine an ?_;go_step;refine ah ?_;refine ag ?_;refine an ?_;go_wp2_with fail;go_ret;exact⟨aa,a.only⟩
   |true=>
    by_cases E:bd<1
    .skip
     obtain rfl:b=false:=by
      cases b with
      |false=>rfl
      |true=>
       have h:=d.1 aa;have l:=h.bd;omega
     go_enter zx,zy;have a:=bc w;go_step;refine ah ?_;refine bG a (av _) (λi dK a=>?_);refine ag ?_;refine an ?_;go_step;refine ah ?_;refine ag ?_;refine pl a 0 0 ?_ (hv:=np (k:=0) aa);refine ag ?_;refine bu (ai ao) ?_;refine v2 ?_;refine pl a 0 69 ?_ (hv:=jq (k:=1) bW aa);refine ag ?_;refine bh a 0 _ ?_ (hv:=qq) (hk:=qs (b4 _)) (hz:=by rw[bW];rfl);refine aP (j _ a.only) ?_;rintro e dz ⟨rfl,g⟩;replace a:=a.aG g;refine aQ ?_;refine pk (ai ao) ?_;refine v3 ?_;refine pl a 0 0 ?_ (hv:=np (k:=0) aa);refine ag ?_;refine bh a 0 _ ?_ (hv:=qq) (hk:=qs (b4 _)) (hz:=by rw[bW];rfl);refine aP (p _ a.only) ?_;rintro e eY ⟨rfl,g⟩;replace a:=a.aG g;refine aQ ?_;refine pk (ai ao) ?_;refine v3 ?_;refine pl a 0 69 ?_ (hv:=jq (k:=1) bW aa);refine bu (ai az) ?_;refine v2 ?_;iterate 3 refine ps ?_
     refine v2 ?_;iterate 3 refine ps ?_
     refine v2 ?_;iterate 3 refine ps ?_
     refine v2 ?_;iterate 3 refine ps ?_
     refine ag ?_;refine an ?_;go_step;refine ah ?_;refine ag ?_;refine an ?_;go_wp2_with fail;go_ret;exact⟨aa,a.only⟩
    .skip;by_cases F:sz<1
     .skip
      obtain rfl:b=false:=by
       cases b with
       |false=>rfl
       |true=>
        have h:=d.1 aa;have l:=h.sz;omega
      go_enter zx,zy;have a:=bc w;go_step;refine ah ?_;refine bG a (av _) (λi K a=>?_);refine ag ?_;refine an ?_;go_step;refine ah ?_;refine ag ?_;refine pl a 0 0 ?_ (hv:=np (k:=0) aa);refine ag ?_;refine bu (ai ao) ?_;refine v2 ?_;refine pl a 0 69 ?_ (hv:=jq (k:=1) bW aa);refine ag ?_;refine bh a 0 _ ?_ (hv:=qq) (hk:=qs (b4 _)) (hz:=by rw[bW];rfl);refine aP (j _ a.only) ?_;rintro e L ⟨rfl,g⟩;replace a:=a.aG g;refine aQ ?_;refine pk (ai ao) ?_;refine v3 ?_;refine pl a 0 0 ?_ (hv:=np (k:=0) aa);refine ag ?_;refine bh a 0 _ ?_ (hv:=qq) (hk:=qs (b4 _)) (hz:=by rw[bW];rfl);refine aP (p _ a.only) ?_;rintro e M ⟨rfl,g⟩;replace a:=a.aG g;refine aQ ?_;refine pk (ai ao) ?_;refine v3 ?_;refine pl a 0 69 ?_ (hv:=jq (k:=1) bW aa);refine bu (ai ao) ?_;refine v3 ?_;refine pl a 0 68 ?_ (hv:=jq (k:=0) bW aa);refine bu (ai az) ?_;refine v2 ?_;iterate 3 refine ps ?_
      refine v2 ?_;iterate 3 refine ps ?_
      refine v2 ?_;iterate 3 refine ps ?_
      refine ag ?_;refine an ?_;go_step;refine ah ?_;refine ag ?_;refine an ?_;go_wp2_with fail;go_ret;exact⟨aa,a.only⟩
     .skip;by_cases G:1000<sz
      .skip
       obtain rfl:b=false:=by
        cases b with
        |false=>rfl
        |true=>
         have h:=d.1 aa;have l:=h.sz;omega
       go_enter zx,zy;have a:=bc w;go_step;refine ah ?_;refine bG a (av _) (λi N a=>?_);refine ag ?_;refine an ?_;go_step;refine ah ?_;refine ag ?_;refine pl a 0 0 ?_ (hv:=np (k:=0) aa);refine ag ?_;refine bu (ai ao) ?_;refine v2 ?_;refine pl a 0 69 ?_ (hv:=jq (k:=1) bW aa);refine ag ?_;refine bh a 0 _ ?_ (hv:=qq) (hk:=qs (b4 _)) (hz:=by rw[bW];rfl);refine aP (j _ a.only) ?_;rintro e O ⟨rfl,g⟩;replace a:=a.aG g;refine aQ ?_;refine pk (ai ao) ?_;refine v3 ?_;refine pl a 0 0 ?_ (hv:=np (k:=0) aa);refine ag ?_;refine bh a 0 _ ?_ (hv:=qq) (hk:=qs (b4 _)) (hz:=by rw[bW];rfl);refine aP (p _ a.only) ?_;rintro e P ⟨rfl,g⟩;replace a:=a.aG g;refine aQ ?_;refine pk (ai ao) ?_;refine v3 ?_;refine pl a 0 69 ?_ (hv:=jq (k:=1) bW aa);refine bu (ai ao) ?_;refine v3 ?_;refine pl a 0 68 ?_ (hv:=jq (k:=0) bW aa);refine bu (ai ao) ?_;refine v3 ?_;refine pl a 0 68 ?_ (hv:=jq (k:=0) bW aa);refine bu (ai az) ?_;refine v2 ?_;iterate 3 refine ps ?_
       refine v2 ?_;iterate 3 refine ps ?_
       refine ag ?_;refine an ?_;go_step;refine ah ?_;refine ag ?_;refine an ?_;go_wp2_with fail;go_ret;exact⟨aa,a.only⟩
      .skip;by_cases H:mo<0
       .skip
        obtain rfl:b=false:=by
         cases b with
         |false=>rfl
         |true=>
          have h:=d.1 aa;have l:=h.mo;omega
        go_enter zx,zy;have a:=bc w;go_step;refine ah ?_;refine bG a (av _) (λi Q a=>?_);refine ag ?_;refine an ?_;go_step;refine ah ?_;refine ag ?_;refine pl a 0 0 ?_ (hv:=np (k:=0) aa);refine ag ?_;refine bu (ai ao) ?_;refine v2 ?_;refine pl a 0 69 ?_ (hv:=jq (k:=1) bW aa);refine ag ?_;refine bh a 0 _ ?_ (hv:=qq) (hk:=qs (b4 _)) (hz:=by rw[bW];rfl);refine aP (j _ a.only) ?_;rintro e S ⟨rfl,g⟩;replace a:=a.aG g;refine aQ ?_;refine pk (ai ao) ?_;refine v3 ?_;refine pl a 0 0 ?_ (hv:=np (k:=0) aa);refine ag ?_;refine bh a 0 _ ?_ (hv:=qq) (hk:=qs (b4 _)) (hz:=by rw[bW];rfl);refine aP (p _ a.only) ?_;rintro e T ⟨rfl,g⟩;replace a:=a.aG g;refine aQ ?_;refine pk (ai ao) ?_;refine v3 ?_;refine pl a 0 69 ?_ (hv:=jq (k:=1) bW aa);refine bu (ai ao) ?_;refine v3 ?_;refine pl a 0 68 ?_ (hv:=jq (k:=0) bW aa);refine bu (ai ao) ?_;refine v3 ?_;refine pl a 0 68 ?_ (hv:=jq (k:=0) bW aa);refine bu (ai ao) ?_;refine v3 ?_;refine pl a 0 70 ?_ (hv:=jq (k:=2) bW aa);refine bu (ai az) ?_;refine v2 ?_;iterate 3 refine ps ?_
        refine ag ?_;refine an ?_;go_step;refine ah ?_;refine ag ?_;refine an ?_;go_wp2_with fail;go_ret;exact⟨aa,a.only⟩
       .skip;by_cases I:100<mo
        .skip
         obtain rfl:b=false:=by
          cases b with
          |false=>rfl
          |true=>
           have h:=d.1 aa;have l:=h.mo;omega
         go_enter zx,zy;have a:=bc w;go_step;refine ah ?_;refine bG a (av _) (λi U a=>?_);refine ag ?_;refine an ?_;go_step;refine ah ?_;refine ag ?_;refine pl a 0 0 ?_ (hv:=np (k:=0) aa);refine ag ?_;refine bu (ai ao) ?_;refine v2 ?_;refine pl a 0 69 ?_ (hv:=jq (k:=1) bW aa);refine ag ?_;refine bh a 0 _ ?_ (hv:=qq) (hk:=qs (b4 _)) (hz:=by rw[bW];rfl);refine aP (j _ a.only) ?_;rintro e X ⟨rfl,g⟩;replace a:=a.aG g;refine aQ ?_;refine pk (ai ao) ?_;refine v3 ?_;refine pl a 0 0 ?_ (hv:=np (k:=0) aa);refine ag ?_;refine bh a 0 _ ?_ (hv:=qq) (hk:=qs (b4 _)) (hz:=by rw[bW];rfl);refine aP (p _ a.only) ?_;rintro e Y ⟨rfl,g⟩;replace a:=a.aG g;refine aQ ?_;refine pk (ai ao) ?_;refine v3 ?_;refine pl a 0 69 ?_ (hv:=jq (k:=1) bW aa);refine bu (ai ao) ?_;refine v3 ?_;refine pl a 0 68 ?_ (hv:=jq (k:=0) bW aa);refine bu (ai ao) ?_;refine v3 ?_;refine pl a 0 68 ?_ (hv:=jq (k:=0) bW aa);refine bu (ai ao) ?_;refine v3 ?_;refine pl a 0 70 ?_ (hv:=jq (k:=2) bW aa);refine bu (ai ao) ?_;refine v3 ?_;refine pl a 0 70 ?_ (hv:=jq (k:=2) bW aa);refine bu (ai az) ?_;refine ag ?_;refine an ?_;go_step;refine ah ?_;refine ag ?_;refine an ?_;go_wp2_with fail;go_ret;exact⟨aa,a.only⟩
        .skip;have u:=z.out;simp at u;obtain rfl:=d.2 ⟨ad,r.1 aa,u.1.2,ad,ad,ad⟩;clear u;go_enter zx,zy;have a:=bc w;go_step;refine ah ?_;refine bG a (av _) (λi Z a=>?_);refine ag ?_;refine an ?_;go_step;refine ah ?_;refine ag ?_;refine pl a 0 0 ?_ (hv:=np (k:=0) aa);refine ag ?_;refine bu (ai ao) ?_;refine v2 ?_;refine pl a 0 69 ?_ (hv:=jq (k:=1) bW aa);refine ag ?_;refine bh a 0 _ ?_ (hv:=qq) (hk:=qs (b4 _)) (hz:=by rw[bW];rfl);refine aP (j _ a.only) ?_;rintro e Dk ⟨rfl,g⟩;replace a:=a.aG g;refine aQ ?_;refine pk (ai ao) ?_;refine v3 ?_;refine pl a 0 0 ?_ (hv:=np (k:=0) aa);refine ag ?_;refine bh a 0 _ ?_ (hv:=qq) (hk:=qs (b4 _)) (hz:=by rw[bW];rfl);refine aP (p _ a.only) ?_;rintro e Gb ⟨rfl,g⟩;replace a:=a.aG g;refine aQ ?_;refine pk (ai ao) ?_;refine v3 ?_;refine pl a 0 69 ?_ (hv:=jq (k:=1) bW aa);refine bu (ai ao) ?_;refine v3 ?_;refine pl a 0 68 ?_ (hv:=jq (k:=0) bW aa);refine bu (ai ao) ?_;refine v3 ?_;refine pl a 0 68 ?_ (hv:=jq (k:=0) bW aa);refine bu (ai ao) ?_;refine v3 ?_;refine pl a 0 70 ?_ (hv:=jq (k:=2) bW aa);refine bu (ai ao) ?_;refine v3 ?_;refine pl a 0 70 ?_ (hv:=jq (k:=2) bW aa);refine bu (ai ao) ?_;refine ag ?_;refine an ?_;go_step;refine ah ?_;refine ag ?_;refine an ?_;go_wp2_with fail;go_ret;exact⟨aa,a.only⟩
end
section
open Go.RowKit Go.MapKept
attribute [local irreducible] wpList cM
def a64(x y:Int):Int:=aH.wrap (x+y)
end
section
open Go.RowKit Go.MapKept
attribute [local irreducible] wpList cM
end
section
open Go.RowKit Go.MapKept
attribute [local irreducible] wpList cM
end
section
open Go.RowKit Go.MapKept
attribute [local irreducible] wpList cM
section
variable {P:Program} {o:Oper} {a:Act} {w:World}
end
end
section
open Go.RowKit Go.MapKept
attribute [local irreducible] wpList cM
end
section
open Go.RowKit Go.MapKept
attribute [local irreducible] wpList cM
end
section
open Go.RowKit Go.MapKept
attribute [local irreducible] wpList cM
def cz(l:List Int):dS:=if h:l.length=32 then⟨l,h⟩else dS.zero
def HT:aO->dS
 |.agg cs=>cz (cs.toList.map intOf)
 |_=>dS.zero
end
section
open Go.RowKit Go.MapKept
attribute [local irreducible] wpList cM
def acV{size bd N mo}(h1:1<=size)(a:size<=1000)(d:bd<=300)(e:N<=300)(b:mo<=100):size*(ia size bd N+mo)<=1048576:=by
 have bB:size*(dY size 0 N).2<=N+size:=by
  unfold dY;split;·omega
  .have:=akm (0+N -1) size;grind[Nat.zero_div]
 have bY:size*iZ size bd<=bd+43+size:=by unfold iZ;have:=akm (bd+43) size;rw[akl,Nat.mul_one];omega
 have c:=Eg a b;grind[ia,akl]
end
def amu{s:Nat}{ms}(hv:∀m∈ms,gW m):(db (s:Int) ms).length=yG s ms:=by
 induction ms with
 |nil=>rfl
 |cons m l a=>
  have e:db (s:Int) (m::l)=yI (s:Int) m++db (s:Int) l:=aY;rw[e,c',a (λx hx=>hv x aF),Y5,alJ (hv m a8).ck.2.1,wK];simp[yG]
theorem amk{m a b}(hv:gW m)(c:m.to<=a)(h1:0<=b)(d:a+b<=m.to+b5 m):b5 (lu m a b)=b:=by grind[lu,b5]
def amt{s o n:Nat}{ms}(x:1<=s)(c:∀m∈ms,mP o n m):∀ba∈db (s:Int) ms,∃t:Nat,ba.to=(t:Int)/\0<=b5 ba/\b5 ba<=(s:Int)/\(t:Int)+b5 ba<=(n:Int)/\(ba.k=1->0<=ba.fr/\ba.fr+ba.n<=(o:Int)):=λba b=>by
 unfold db at b;obtain⟨m,e,h1⟩:=Ee.1 b;unfold yI at h1;obtain⟨k,hk,rfl⟩:=fL.1 h1;have hk2:=kq.1 hk;obtain⟨a,r,u⟩:=c m e;have y:=a.ck;obtain⟨A,B,g,h⟩:=RC (s:=(s:Int)) (k:=(k:Int)) a ad ad ad;obtain⟨j,d⟩:=ex (l9 m (s:Int) (k:Int)*(s:Int));have w:b5 (kZ m (s:Int) (k:Int))=min (s:Int) (b5 m -j):=by grind[kZ,amk]
 rw[d]at g h;have z:(kZ m (s:Int) (k:Int)).to=m.to+j:=by grind[kZ,lu]
 refine⟨(m.to+j).toNat,ad,ad,ad,ad,λv=>?_⟩;by_cases f:m.k=1;·obtain⟨i,l,p,q⟩:=a.copy f;grind[b5,kZ,lu]
 .grind[kZ,lu]
section
open Go.RowKit Go.MapKept
attribute [local irreducible] wpList cM
end
section
open Go.RowKit Go.MapKept
def au5{s i}(a:1<=s):∃q j,j<s/\i=q*s+j:=⟨i/s,i%s,KK _ a,by grind[QV]⟩
def atE{s i bs b}(hb:b.length=s)(h:(i+1)*s<=bs.length){q j}(c:j<s):(xH s bs i b)[q*s+j]?=if q=i then b[j]? else bs[q*s+j]?:=by
 have e:xH s bs i b=gv bs _ b:=rfl;rw[tR,Eh]at h;rw[e];by_cases a:q=i;·grind[FH]
 .rw[if_neg a];refine C1 ad ?_;rcases Nat.lt_or_gt_of_ne a with h1|h1;·left;have:=o2 s (show q+1<=i from h1);rw[tR,Eh]at this;omega
  .right;have:=o2 s (show i+1<=q from h1);rw[tR,Eh]at this;omega
section
variable {P:Nat->Prop} {oa:List Int} {L:Nat} {d:dn}
end
section
variable {oa:List Int} {N first bd:Nat} {d:dn}
end
end
section
open Go.RowKit Go.MapKept
section
variable {N sz first bd:Nat} {oa:List Int} {d:dn}
end
section
variable {E:mu} {N sz:Nat} {oa:List Int}
end
def aup{s N}(a:1<=s):N<=(dY s 0 N).2*s:=by have h:=IH (s:=s) (N:=N) (e:=0) (x:=0) a;rw[Ef]at h;simpa using h
end
section
open Go.RowKit Go.MapKept
attribute [local irreducible] wpList cM
def avk(c aJ)(c1 c2)xs w(hx:bX w c xs)(f:bX w aJ xs)(q:xs.length<=1048576):
 aD aw 22 #[ae c xs.length c1,ae aJ xs.length c2] w λe w'=>e=aB (ai az)/\ar w w':=by
 have j:=hid hx;have k:=hid f;clear hx f;go_enter func22,ntmps22;have a:=bc w;go_step;refine ah ?_;refine xU ?_;refine aI (ai ao) (by(go_simp;try simp)) ?_;refine ah ?_;refine v3 ?_;refine an ?_;have i:=a;go_wp2_with fail;go_loopw [13] (λb wr=>∃d:Nat,d<=xs.length/\b=J R (d:Int)/\ak w (λ_=>False) wr []) (λb wr=>xs.length -(cO b).toNat);case atStart=>grind
 case round=>
  clear a i;obtain⟨d,p,rfl,a⟩:=hrel;by_cases hlt:d<xs.length
  .have n:(d:Int)<(xs.length:Int):=ad;obtain⟨eF,fB,l,hc1⟩:=j ad;obtain⟨eV,o,m,hc2⟩:=k ad;have g:=hc1 d hlt;have h:=hc2 d hlt;obtain⟨x,hx⟩:=ex (xs[d]?.getD 0);rw[hx]at g h;subst l;subst m;clear hx hc1 hc2;go_step;refine ah ?_;refine bu (ai az) ?_;refine ah ?_;refine v2 ?_;refine cx ?_;refine bN a [] (λ_ _=>a1) (λ_ _=>emp) (λ_=>[]) (λ_=>[]) (λ_=>[]) [] (λr=>?_);refine bF ?_;refine aN _ (λ_ _ _=>cq 22 5 1 _ _ aa dL ay _ _ _ _ _ ((fB+d)) aa aa ad ad) ?_;refine lv g ?_;refine bF ?_;refine aN _ (λ_ _ _=>cq 22 5 1 _ _ aa dL ay _ _ _ _ _ ((o+d)) aa aa ad ad) ?_;refine lv h ?_;refine aN (ai ao) (λ_ _ _=>by(go_simp;try simp)) ?_;refine bU λw1 a=>?_;refine ah ?_;refine pad (d:Int) 1 ((d+1:Nat):Int) ?_;refine bP ?_;go_wp2_with fail;go_roundw;case rel=>exact⟨d+1,ad,aa,a⟩
   case measure=>(simp only[cO,wK];omega)
  .have n:¬(d:Int)<(xs.length:Int):=ad;go_step;refine ah ?_;refine bu (ai ao) ?_;refine ah ?_;refine ag ?_;refine an ?_;go_wp2_with fail;go_ret;exact⟨aa,a.only⟩
end
section
structure Live (d:dn):Prop where
 ok:dv d
 up:d.down=ao
 wr:d.writes<0
def atX d(n i)b:jo (n2 d n b) i=if n=i then b else jo d i:=by
 unfold jo;have e:(n2 d n b).cache.map (·.1)=d.cache.map (·.1)++[n]:=by simp[n2]
 have bY:(n2 d n b).cache=d.cache++[(n,b)]:=rfl;have a:(n2 d n b).bytes=d.bytes:=rfl;have c:(n2 d n b).size=d.size:=rfl;rw[e,Mz,bY,a,c];by_cases h:n=i;·grind
 .rw[if_neg h,if_neg h];cases hk:pn (d.cache.map (·.1)) i with
  |none=>rfl
  |some k=>
   have h1:=Tq hk;grind
def Live.write{d}(h:Live d){i b}(hi:i<d.cnt)(hb:b.length=d.size):jr d (i:Int) b=(0,n2 d i b):=by
 have hc:jw d (i:Int)=0:=by unfold jw;rw[if_neg (by rw[h.up];simp),if_neg ad]
 unfold jr;rw[if_neg ad,if_neg ad,if_pos h.wr,wK]
def aeg{s o n p}(a:1<=s)(h1:o<=p)(c:p<o+n):∃x∈mm s o n,x.1=p/s/\x.2.1<=p/\p<x.2.1+x.2.2:=by
 have f:=QV p s;have e:=KK p a;have g:p/s*s=s*(p/s):=Ef _ _;have d:o/s<=p/s:=QW h1;have hb:p/s<=(o+n -1)/s:=QW ad;have b:dY s o n=(o/s,(o+n -1)/s -o/s+1):=by grind[dY]
 refine⟨lG s o n _,?_,aa,?_,?_⟩;·unfold mm;rw[b];refine fL.2 ⟨p/s -o/s,kq.2 ad,?_⟩;simp only;rw[show o/s+(p/s -o/s)=p/s by omega]
 .show max o (p/s*s)<=p;omega
 .show p<max o (p/s*s)+(min (o+n) (p/s*s+s) -max o (p/s*s));omega
section
variable {d:dn} {o:Nat} {bs:List Int}
def aof(z:dv d)(hn:o+bs.length<=d.bytes.length)(F:d.cache.length<=1000000000):∀(l:List (Nat×Nat×Nat)) k bD,(∀x∈l,x∈mm d.size o bs.length)->BX d bD k->bD.writes<0->bD.bytes=d.bytes->k+l.length<=10000000->
 ∃b,l.foldl (lg o bs) (0,bD)=(0,b)/\Live b/\b.size=d.size/\b.cnt=d.cnt/\b.bytes=d.bytes/\b.writes=bD.writes/\∀q j,j<d.size->q<d.cnt->(jo b q)[j]?=if(∃x∈l,x.2.1<=q*d.size+j/\q*d.size+j<x.2.1+x.2.2)then bs[q*d.size+j -o]? else(jo bD q)[j]?:=by
 intro l;induction l with
 |nil=>
  intro k bD _ a h1 f _;exact⟨bD,aa,⟨a.ok,a.down,h1⟩,a.size,a.cnt,f,rfl,λq j _ _=>aY⟩
 |cons x l D=>
  intro k bD m a h1 f hk;rw[js]at hk;obtain⟨H,I,J,K,L,M⟩:=FR z hn (m x a8);have n:=a.size;have E:=a.cnt;have G:=C9 a.ok (i:=x.1) ad;have hpl:((bs.drop (x.2.1 -o)).take x.2.2).length=x.2.2:=aF;obtain⟨h,g⟩:=ex (gv (jo bD x.1) (x.2.1 -x.1*bD.size) ((bs.drop (x.2.1 -o)).take x.2.2));have B:h.length=bD.size:=by grind[xF]
  have e:lg o bs (0,bD) x=(0,n2 bD x.1 h):=by unfold lg;rw[if_neg a8];simp only;rw[g];exact Live.write ⟨a.ok,a.down,h1⟩ ad B
  have hst:=a.step (x:=x) (o:=o) (bs:=bs) ad (by rw[e]);rw[e]at hst;obtain⟨b,g1,g2,s,t,u,v,w⟩:=D (k+1) (n2 bD x.1 h) (λy p=>m y aF) hst h1 f ad;rw[tO,e];refine⟨_,g1,g2,s,t,u,v,λq j A C=>?_⟩;rw[w q j A C,atX];by_cases hc:∃y∈l,y.2.1<=q*d.size+j/\q*d.size+j<y.2.1+y.2.2;·obtain⟨y,p,r⟩:=hc;rw[if_pos ⟨y,p,r⟩,if_pos ⟨y,aF,r⟩]
  .rw[if_neg hc];by_cases hx:x.2.1<=q*d.size+j/\q*d.size+j<x.2.1+x.2.2
   .have c:x.1=q:=by
     rcases QY x.1 q with hh|hh|hh;·have:=o2 d.size (show x.1+1<=q from hh);rw[tR,Eh]at this;omega
     .omega
     .have:=o2 d.size (show q+1<=x.1 from hh);rw[tR,Eh]at this;omega
    subst c;rw[if_pos aa,if_pos ⟨x,List.mem_cons_self ..,hx⟩,<-g,n,FH ad ad ad,om,if_pos ad,vj];congr 1;omega
   .have hno:¬∃y∈x::l,y.2.1<=q*d.size+j/\q*d.size+j<y.2.1+y.2.2:=aF;by_cases c:x.1=q;·subst c;rw[if_pos aa,if_neg hno,<-g,n,C1 ad ad]
    .rw[if_neg c,if_neg hno]
def aog(h:Live d)(hn:o+bs.length<=d.bytes.length)(k:d.cache.length<=1000000000):∃bD,ly d o bs=(0,bD)/\Live bD/\bD.size=d.size/\bD.cnt=d.cnt/\bD.bytes=d.bytes/\bD.writes=d.writes/\∀q j,j<d.size->q<d.cnt->(jo bD q)[j]?=if o<=q*d.size+j/\q*d.size+j<o+bs.length then bs[q*d.size+j -o]? else(jo d q)[j]?:=by
 have n:=aeh d o bs.length;have hsm:d.bytes.length<=1048576:=by rw[h.ok.len];exact h.ok.small
 obtain⟨bD,g1,g2,c,e,f,g,i⟩:=aof h.ok hn k (mm d.size o bs.length) 0 d (λ_ h=>h) ⟨h.ok,aa,aa,h.up,b4 _⟩ h.wr aa ad;refine⟨bD,g1,g2,c,e,f,g,λq j l m=>?_⟩;rw[i q j l m];by_cases hc:o<=q*d.size+j/\q*d.size+j<o+bs.length;·obtain⟨x,hx,_,a,b⟩:=aeg (s:=d.size) h.ok.kz hc.1 hc.2;rw[if_pos hc,if_pos ⟨x,hx,a,b⟩]
 .rw[if_neg hc,if_neg];rintro⟨x,hx,a,b⟩;obtain⟨p,r,t,u,v,w⟩:=FR h.ok hn hx;exact hc ⟨ad,ad⟩
end
def ad5{d}(a:dv d){q j}(b:j<d.size):∀k,k<=d.cache.length->(nV d (λ_=>az) k)[q*d.size+j]?=(match pn ((d.cache.take k).map (λx:Nat×List Int=>x.1)) q with|some i=>((d.cache[i]?).map (λx:Nat×List Int=>x.2)).getD []|none=>(d.bytes.drop (q*d.size)).take d.size)[j]?
 |0,_=>by have e:pn ((d.cache.take 0).map (·.1)) q=none:=aY;rw[e];show d.bytes[q*d.size+j]?=_;grind
 |k+1,hk=>by
  have l:=ad5 a (q:=q) b k ad;obtain⟨x,hx⟩:∃x,d.cache[k]?=ab x:=⟨_,cC ad⟩;obtain⟨h1,c⟩:=a.cache x (cY hx);have f:(x.1+1)*d.size<=(nV d (λ_=>az) k).length:=by rw[FM a,a.len];exact o2 _ h1
  rw[nV,hx];simp only[if_true];rw[atE c f b,gg,hx,z1,gp,List.map_cons,kp,Mz];have g:((d.cache.take k).map (·.1)).length=k:=aF;by_cases h:q=x.1;·grind
  .grind
def aob{d}(h:Live d):∃bD,k1 d=(0,bD)/\Live bD/\bD.cache=[]/\bD.size=d.size/\bD.cnt=d.cnt/\bD.writes=d.writes/\bD.bytes.length=d.bytes.length/\∀q j,j<d.size->(bD.bytes)[q*d.size+j]?=(jo d q)[j]?:=by
 have hc:jw d 0=0:=by unfold jw;have:=h.ok.sS;rw[if_neg (by rw[h.up];simp),if_neg ad]
 have a:=M' h.ok (λ_=>az);refine⟨{q6 d (λ_=>az)with eP:=R.wrap ((q6 d (λ_=>az)).eP+1)},?_,⟨⟨a.kz,a.sS,a.len,a.small,a.cache,a.dI,a.wr⟩,h.up,h.wr⟩,aa,aa,aa,aa,FM h.ok _ _,λq j b=>?_⟩;·grind[k1]
 .show(nV d (λ_=>az) d.cache.length)[q*d.size+j]?=_;rw[ad5 h.ok b _ (b4 _),kH];rfl
structure Clean (d:dn):Prop where
 live:Live d
 none:d.cache=[]
structure Hl (d bD:dn) (B:List Int):Prop where
 c:Clean bD
 size:bD.size=d.size
 cnt:bD.cnt=d.cnt
 bytes:bD.bytes=B
def aes{d}(h:d.cache=[]){q j}(a:j<d.size):(jo d q)[j]?=d.bytes[q*d.size+j]?:=by grind[jo,pn]
section
variable {d:dn} {o:Nat} {bs:List Int}
theorem ZY(h:Clean d)(hn:o+bs.length<=d.bytes.length):∃c b,ly d o bs=(0,c)/\k1 c=(0,b)/\Hl d b (gv d.bytes o bs):=by
 obtain⟨c,g1,g2,e,s,x,y,t⟩:=aog h.live hn (by rw[h.none];exact cF _);obtain⟨b,k,l,m,n,p,v,w,r⟩:=aob g2;refine⟨c,b,g1,k,⟨l,m⟩,n.trans e,p.trans s,?_⟩;have z:b.bytes.length=d.bytes.length:=aF;refine rH λi=>?_;by_cases hi:i<d.bytes.length
 .obtain⟨q,j,g,rfl⟩:=au5 (i:=i) h.live.ok.kz
  have u:q<d.cnt:=by rw[h.live.ok.len]at hi;exact Nat.lt_of_mul_lt_mul_right (a:=d.size) ad
  have f:=r q j ad;rw[e]at f;rw[f,t q j g u];by_cases hc:o<=q*d.size+j/\q*d.size+j<o+bs.length;·grind[FH]
  .rw[if_neg hc,C1 hn ad,aes h.none g]
 .grind[xF]
def awQ(h:Clean d)(hn:o+bs.length<=d.bytes.length):∃bD,jH d o bs=(0,bD)/\Hl d bD (gv d.bytes o bs):=by grind[ZY,jH]
def rd_key(hc:d.cache=[])(a:dv d){n}:∀(l:List (Nat×Nat×Nat)) out,(∀x∈l,Ej d o n x)->out.length=n->∀i,i<n->(l.foldl (rdStep d o) out)[i]?=if(∃x∈l,x.2.1<=o+i/\o+i<x.2.1+x.2.2)then d.bytes[o+i]? else out[i]?:=by
 intro l;induction l with
 |nil=>simp
 |cons x l h=>
  intro out hx ho i hi;have b:=hx x a8;rw[tO,h _ (λy c=>hx y aF) (aeq a b ho) i hi];obtain⟨k,m,p,q,r,j⟩:=b;have g:=C9 a j;have hpl:(((jo d x.1).drop (x.2.1 -x.1*d.size)).take x.2.2).length=x.2.2:=by rw[nJ,List.length_drop,g];omega
  by_cases h1:∃y∈l,y.2.1<=o+i/\o+i<y.2.1+y.2.2;·obtain⟨y,c,e⟩:=h1;rw[if_pos ⟨y,c,e⟩,if_pos ⟨y,aF,e⟩]
  .rw[if_neg h1];unfold rdStep;by_cases f:x.2.1<=o+i/\o+i<x.2.1+x.2.2;·rw[if_pos ⟨x,a8,f⟩,FH ad ad ad,om,if_pos ad,vj,aes hc ad];congr 1;omega
   .rw[if_neg aF,C1 ad ad]
def Ua(hc:d.cache=[])(a:dv d){n}(hn:o+n<=d.bytes.length):nY d o n=(d.bytes.drop o).take n:=by
 refine rH λi=>?_;by_cases hi:i<n;·unfold nY;rw[rd_key hc a _ _ (λx hx=>FR a hn hx) pN i hi,om,if_pos hi,vj];obtain⟨x,hx,_,b,c⟩:=aeg (s:=d.size) (p:=o+i) a.kz (Nat.le_add_right o i) (by omega:o+i<o+n);rw[if_pos ⟨x,hx,b,c⟩]
 grind[xI]
def ZL(hc:d.cache=[])(a:dv d){s}(e:1<=s):∀(f o n),n<=f->o+n<=d.bytes.length->ik d (oL s f o n)=(d.bytes.drop o).take n
 |0,o,n,c,_=>by grind[oL,ik]
 |f+1,o,n,c,hn=>by
  rw[oL];split;·grind[ik]
  .have b:=ZL hc a e f (o+min s n) (n -min s n) ad ad;unfold ik at b⊢;rw[List.flatMap_cons,b];simp;rw[Ua hc a ad,<-List.drop_drop,<-List.take_add];congr 1;omega
theorem T1(h:Clean d){s n}(a:1<=s)(hn:o+n<=d.bytes.length):ik d (hB s o n)=(d.bytes.drop o).take n:=ZL h.none h.live.ok a n o n (b4 _) hn
def Yp(h:Clean d){first bd id nx cu of j}(a:jg d first bd)(hb:bs.length<=bd):∃b bD,jh d first bd id j nx cu of bs=(0,b,bD)/\b.next=aH.wrap ((nx:Int)+1)/\∃e,nj d first bd (nx%2)+e.length<=d.bytes.length/\Hl d bD (gv d.bytes (nj d first bd (nx%2)) e):=by
 have hroom:nj d first bd (nx%2)+(uh nx id cu of bs).length<=d.bytes.length:=by have h1:=a.room (i:=nx%2) ad;have k:=Tl a;rw[RP];omega
 obtain⟨g,c,g1,g2,f⟩:=ZY h hroom;refine⟨⟨aH.wrap _,⟨(nx:Int),(id:Int),(cu:Int),(of:Int),bs⟩,az⟩,c,?_,aa,_,hroom,f⟩;grind[jh]
end
end
def vQ(F:List Int)(m:bJ):List Int:=gv F m.to.toNat (hX F m)
structure KS (N:Nat) (F0:List Int) (g:Int->Int) (m:bJ):Prop where
 lo:0<=m.to
 fit:m.to+b5 m<=(N:Int)
 B6:m.k=1->0<=m.fr/\0<=m.n/\m.fr+m.n<=(N:Int)
 is:∀q:Nat,(q:Int)<b5 m->(hX F0 m)[q]?=ab (g (m.to+(q:Int)))
def KP(x y:bJ):Prop:=y.k=1->∀p:Int,y.fr<=p->p<y.fr+y.n->¬hasB x p=az
def afx{N F0 g m}(h:KS N F0 g m){F}(c:F.length=N):((hX F m).length:Int)=b5 m:=by
 unfold hX b5;by_cases hk:m.k=1;·obtain⟨h1,a,b⟩:=h.B6 hk;grind
 .grind
def aqE{N F0 g}(f:F0.length=N):∀(l done:List bJ) F,F.length=N->(∀p:Nat,p<N->F[p]?=if(∃m∈done,hasB m (p:Int)=az)then ab (g (p:Int))else F0[p]?)->(∀m∈l,KS N F0 g m)->(∀x∈done,∀y∈l,KP x y)->l.Pairwise KP->
 (l.foldl vQ F).length=N/\∀p:Nat,p<N->(l.foldl vQ F)[p]?=if(∃m∈done++l,hasB m (p:Int)=az)then ab (g (p:Int))else F0[p]?:=by
 intro l;induction l with
 |nil=>intro done F c b _ _ _;rw[j1];exact⟨c,b⟩
 |cons m l s=>
  intro done F c b d r q;have a:=d m a8;have w:=afx a c;have hl0:=afx a f;have z:=a.lo;have v:=a.fit
  have hb:hX F m=hX F0 m:=by
   unfold hX;by_cases hk:m.k=1
   .obtain⟨h1,t,u⟩:=a.B6 hk;rw[if_pos hk,if_pos hk];refine rH λi=>?_;rw[om,om];split;·rename_i hi;rw[vj,vj,b _ ad,if_neg];rintro⟨x,hx,hx2⟩;exact r x hx m a8 hk _ ad ad hx2
    .rfl
   .grind
  have hlen:(vQ F m).length=N:=by grind[vQ,xF]
  have e:done++m::l=(done++[m])++l:=a8;rw[tO,e];refine s (done++[m]) _ hlen (λp o=>?_) (λx hx=>d x aF) (λx hx y A=>?_) (List.pairwise_cons.1 q).2
  .unfold vQ;rw[hb];by_cases hc:hasB m (p:Int)=az;·have hc2:=sZ.1 hc;have j:=a.is (p -m.to.toNat) ad;rw[if_pos ⟨m,a8,hc⟩,FH ad ad ad,j];congr 2;omega
   .have hc2:¬(m.to<=(p:Int)/\(p:Int)<m.to+b5 m):=λh=>hc (sZ.2 h);rw[C1 ad ad,b p o];by_cases n:∃x∈done,hasB x (p:Int)=az;·obtain⟨x,hx,hx2⟩:=n;rw[if_pos ⟨x,hx,hx2⟩,if_pos ⟨x,aF,hx2⟩]
    grind
  .grind
def aee{ms}(h:ky ms=ms.length){i}(hi:i<ms.length):th ms i=false:=by grind[ky,List.findIdx_eq_length]
theorem M9{m a b}:(lu m a b).k=1↔m.k=1:=by grind[lu]
def as9{m a b}(h1:m.to<=a)(c:0<=b)(d:a+b<=m.to+b5 m):b5 (lu m a b)=b:=by grind[lu,b5]
theorem FL{m a b}:(lu m a b).to=a:=by grind[lu]
def FN{m}(hv:gW m){s}(c:1<=s){k}(h1:0<=k)(a:k<j5 m s):∃r b,r=l9 m s k*s/\b=min s (b5 m -r)/\0<=r/\0<b/\r+b<=b5 m/\kZ m s k=lu m (m.to+r) b/\b5 (kZ m s k)=b:=by obtain⟨e,f,d,g⟩:=RC hv c h1 a;refine⟨_,_,aa,aa,d,ad,ad,aa,as9 ad ad ad⟩
def atm{o n N old F0 ms}(ho:old.length=o)(A:o<=N)(z:n<=N)(x:∀p:Nat,p<o->F0[p]?=old[p]?)(h:Lays n (ms.map ck)){m}(i:m∈ms)(a:mP o n m){s}(l:1<=s){k}(h1:0<=k)(d:k<j5 m s):KS N F0 (jE old ms) (kZ m s k):=by
 obtain⟨r,b,hr,hb,t,u,v,e,c⟩:=FN a.1 l h1 d;have B:=a.1.ck;have y:=a.2.2;rw[e]at c⊢;refine⟨by grind[FL],by grind[FL],λhk=>?_,λq j=>?_⟩;·have hk:=M9.1 hk;have f:=a.1.copy hk;have g:=a.2.1 hk;grind[b5,lu]
 .rw[c]at j;rw[FL,h.jE i (sZ.2 ⟨ad,ad⟩) _];unfold wW hX;by_cases hk:m.k=1
  .have f:=a.1.copy hk;have g:=a.2.1 hk;have w:b5 m=m.n:=by grind[b5]
   rw[if_pos (M9.2 hk),if_pos hk];grind[lu]
  .grind[b5,lu]
def atl{m}(hv:gW m){s}(g:1<=s){k a}(l:0<=k)(h1:k<a)(o:a<j5 m s):KP (kZ m s k) (kZ m s a):=by
 intro hk p t f hb;obtain⟨r,b,hr,jx,A,C,E,e,q⟩:=FN hv g l (by omega:k<j5 m s);obtain⟨d,h,z,w,B,D,F,u,hl'⟩:=FN hv g (by omega:0<=a) o;have y:m.k=1:=by grind[M9]
 have v:b5 m=m.n:=by grind[b5]
 have hb2:=sZ.1 hb;rw[q,e,FL]at hb2;have i:(kZ m s a).fr=m.fr+d:=by grind[lu]
 have j:(kZ m s a).n=h:=by grind[lu]
 rw[i]at t f;rw[j]at f;by_cases x:Ah m=az
 .have hlt:d+s<=r:=by
   have c:l9 m s a+1<=l9 m s k:=by grind[l9]
   have:=XM c (show(0:Int)<=s by omega);rw[ajV,ajZ]at this;omega
  grind[Ah]
 .have hlt:r+s<=d:=by
   have c:l9 m s k+1<=l9 m s a:=by grind[l9]
   have:=XM c (show(0:Int)<=s by omega);rw[ajV,ajZ]at this;omega
  grind[meets,Ah]
def avJ{o n ms}(g:∀m∈ms,mP o n m)(E:ky ms=ms.length){s}(d:1<=s):(db s ms).Pairwise KP:=by
 unfold db;rw[List.pairwise_flatMap];refine⟨λm B=>?_,?_⟩;·unfold yI;rw[ys];refine(List.pairwise_lt_range).imp_of_mem ?_;intro a b f hb hab;rw[kq]at f hb;exact atl (g m B).1 d ad ad ad
 .rw[l5];intro i j hi h N x hx y G hk p F l hb;have C:=Ed hi;have D:=Ed h;have q:=(g _ C).1;have t:=(g _ D).1;obtain⟨a,f,rfl⟩:=fL.1 hx;obtain⟨b,hb',rfl⟩:=fL.1 G;rw[kq]at f hb';have L:=B4 q d;have M:=B4 t d;obtain⟨r,I,_,_,O,Q,S,e,A⟩:=FN q d (k:=(a:Int)) ad ad;obtain⟨H,u,_,_,P,R,T,J,hl'⟩:=FN t d (k:=(b:Int)) ad ad;have z:ms[j].k=1:=by grind[M9]
  have K:b5 ms[j]=ms[j].n:=by grind[b5]
  have hb2:=sZ.1 hb;rw[A,e,FL]at hb2;have v:(kZ ms[j] s (b:Int)).fr=ms[j].fr+H:=by grind[lu]
  have w:(kZ ms[j] s (b:Int)).n=u:=by grind[lu]
  rw[v]at F l;rw[w]at l;have c:=aee E h;unfold th at c;rw[cC h]at c;simp only at c;unfold zg at c;rw[z,decide_eq_true aa,Bi,XQ]at c;have h10:=c _ (fL.2 ⟨ms[i],XV.2 ⟨i,ad,aa⟩,aa⟩);unfold meets ck at h10;simp only[decide_eq_true_eq]at h10;omega
def atj{m}(hv:gW m){s}(d:1<=s){p}(h:hasB m p=az):∃y∈yI s m,hasB y p=true:=by
 have h1:=sZ.1 h;have hc:=B4 hv d;have a:0<=(p -m.to)/s:=Int.ediv_nonneg ad ad;have t:(p -m.to)/s<=(b5 m -1)/s:=Int.ediv_le_ediv ad ad;have c:(p -m.to)/s<j5 m s:=by grind[j5,cnt]
 have l:=Int.emod_add_mul_ediv (p -m.to) s;have q:=Int.emod_lt_of_pos (p -m.to) (show 0<s by omega);have o:=Int.emod_nonneg (p -m.to) (show s≠0 by omega);obtain⟨P,f⟩:=ex ((p -m.to)/s);rw[f]at a c l
 obtain⟨k,g,i,hk2⟩:∃k,0<=k/\k<j5 m s/\l9 m s k=P:=by
  unfold l9;by_cases n:Ah m=az;·exact⟨j5 m s -1 -P,ad,ad,aF⟩
  .exact⟨P,a,c,aF⟩
 obtain⟨r,b,hr,hb,u,v,w,e,j⟩:=FN hv d g i;rw[hk2,Int.mul_comm]at hr;refine⟨kZ m s k,fL.2 ⟨k.toNat,kq.2 ad,aF⟩,sZ.2 ?_⟩;rw[j,e,FL];omega
def avI{o n N old F0 ms}(ho:old.length=o)(q:o<=N)(l:n<=N)(g:F0.length=N)(i:∀p:Nat,p<o->F0[p]?=old[p]?)(h:Lays n (ms.map ck))(d:∀m∈ms,mP o n m)(r:ky ms=ms.length){s}(f:1<=s):((db s ms).foldl vQ F0).take n=l1 old ms n:=by
 have hst:∀y∈db s ms,KS N F0 _ y:=λy c=>by obtain⟨m,b,c⟩:=Ee.1 c;obtain⟨a,j,rfl⟩:=fL.1 c;rw[kq]at j;have hc:=B4 (d m b).1 f;exact atm ho q l i h b (d m b) f ad ad
 obtain⟨u,k⟩:=aqE g (db s ms) [] F0 g (λp _=>by rw[if_neg a8]) hst (λx hx=>(fQ hx).elim) (avJ d r f);refine rH λp=>?_;unfold l1;by_cases e:p<n;·rw[om,if_pos e,k p ad,lr,QS e];obtain⟨m,b,hb⟩:=h.Y4 p e;obtain⟨y,c,t⟩:=atj (d m b).1 f hb;rw[if_pos ⟨y,by rw[lK];exact Ee.2 ⟨m,b,c⟩,t⟩];rfl
 .rw[zU (by rw[nJ];omega),zU (by simpa using e)]
section
def adO{B e a N}(h:a+e.length<=B.length)(b:N<=a):(gv B a e).take N=B.take N:=by refine rH λi=>?_;grind[C1]
def asS{B e a N}(h:a+e.length<=N)(b:N<=B.length):(gv B a e).take N=gv (B.take N) a e:=by have c:(B.take N).length=N:=aF;refine rH λi=>?_;grind[FH,C1]
def Hl.len{d bD a e}(h:Hl d bD (gv d.bytes a e))(b:a+e.length<=d.bytes.length):bD.bytes.length=d.bytes.length:=by rw[h.bytes,xF b]
def anN{d}(h:Clean d){first bd id jn nx t j bs}(l:jg d first bd)(hb:bs.length<=bd)(p:t+bs.length<=d.bytes.length):∃f bD,k0 d first bd id jn nx t j bs=(0,f,bD)/\Clean bD/\bD.size=d.size/\bD.cnt=d.cnt/\∃e,nj d first bd (jn%2)+e.length<=d.bytes.length/\bD.bytes=gv (gv d.bytes (nj d first bd (jn%2)) e) t bs:=by obtain⟨f,m,g1,_,e,g,a⟩:=Yp h (id:=id) (nx:=jn) (cu:=nx) (of:=t) (j:=j) l hb;have n:=a.len g;obtain⟨i,k,b⟩:=awQ a.c (o:=t) (bs:=bs) ad;refine⟨f,i,?_,b.c,b.size.trans a.size,b.cnt.trans a.cnt,e,g,by rw[b.bytes,a.bytes]⟩;unfold k0;rw[g1];simp only;rw[if_neg a8,k]
def Tm{d first bd i}:first*d.size<=nj d first bd i:=by grind[nj]
def anI{d}(h:Clean d){N ba}(a:N<=d.bytes.length)(hx:ba.k=1->ba.fr.toNat+ba.n.toNat<=N):jC d ba=hX (d.bytes.take N) ba:=by
 unfold jC hX;by_cases hk:ba.k=1;·have h1:=hx hk;rw[if_pos hk,if_pos hk,Ua h.none h.live.ok ad,List.drop_take,QU,wQ ad]
 .grind
section
variable {E:mu}
def avF{N s}(h:nK E s)(hst:s.st≠2)(g:s.bw=ao)(hc:Clean s.d)(hr:N<=E.first*s.d.size)(a:N<=s.d.bytes.length){ba}(c:(db E.bd E.ms)[s.nx]?=ab ba)(hx:ba.to.toNat+(b5 ba).toNat<=N)(r:ba.k=1->ba.fr.toNat+ba.n.toNat<=N):
 (fE E s).1=0/\(fE E s).2.st≠2/\(fE E s).2.bw=ao/\Clean (fE E s).2.d/\(fE E s).2.d.size=s.d.size/\(fE E s).2.nx=s.nx+1/\(fE E s).2.d.bytes.take N=vQ (s.d.bytes.take N) ba:=by
 obtain⟨st,nx,bw,j,d⟩:=s;have b:jg d _ _:=h.j;have p:zt E d:=h.e;simp only at hst g hc hr a c;subst g;obtain⟨t,hch,B⟩:=p.ch ba (cY c)
 have z:(jC d ba).length=(b5 ba).toNat:=by
  unfold jC b5;by_cases hk:ba.k=1;·obtain⟨f,q,v,w,x⟩:=hch.B6 hk;rw[if_pos hk,if_pos hk,xI b.dev ad]
  .grind
 obtain⟨u,bD,g1,g2,l,y,e,m,o⟩:=anN hc (id:=E.id) (jn:=j.next.toNat) (nx:=nx) (t:=ba.to.toNat) (j:=j) (bs:=jC d ba) b hch.gN ad;have A:=Tm (d:=d) (first:=E.first) (bd:=E.bd) (i:=j.next.toNat%2);have bY:fE E ⟨st,nx,ao,j,d⟩=(0,⟨1,nx+1,ao,u,bD⟩):=by grind[fE]
 rw[bY];refine⟨aa,λh:(1:Int)=2=>absurd h bf,aa,g2,l,aa,?_⟩;show bD.bytes.take N=_;rw[o,asS ad (by grind[xF]),adO m ad];unfold vQ;rw[<-anI hc a r]
theorem an3{N s}(h:nK E s)(hst:s.st≠2)(c:s.bw=ao)(hc:Clean s.d)(hr:N<=E.first*s.d.size)(m:N<=s.d.bytes.length)(hn:s.nx=(db E.bd E.ms).length)(b:gz (s.d.bytes.take E.n)=E.g2.l):
 (fE E s).1=0/\(fE E s).2.st=2/\(fE E s).2.d.bytes.take N=s.d.bytes.take N:=by
 obtain⟨st,nx,bw,j,d⟩:=s;have o:jg d _ _:=h.j;have a:zt E d:=h.e;simp only at hst c hc hr m hn b;subst c;have hnone:(db E.bd E.ms)[nx]?=none:=zU ad;obtain⟨f,bD,g1,_,e,g,k⟩:=Yp hc (id:=E.id) (nx:=j.next.toNat) (cu:=(db E.bd E.ms).length) (of:=0) (j:=j) (bs:=[]) o (cF _);have q:=Tm (d:=d) (first:=E.first) (bd:=E.bd) (i:=j.next.toNat%2)
 have p:nb E d j.next.toNat j=(0,f,bD):=by unfold nb;rw[T1 hc a.eF (by have:=a.new;omega),Hd,if_pos b,g1]
 have bY:fE E ⟨st,nx,ao,j,d⟩=(0,⟨2,nx,ao,f,bD⟩):=by grind[fE]
 rw[bY];refine⟨aa,aa,?_⟩;show bD.bytes.take N=_;rw[k.bytes,adO g ad]
def aeT{N}(u:E.n<=N):∀(k) s,nK E s->s.st≠2->s.bw=ao->Clean s.d->N<=E.first*s.d.size->N<=s.d.bytes.length->(∀ba∈db E.bd E.ms,ba.to.toNat+(b5 ba).toNat<=N/\(ba.k=1->ba.fr.toNat+ba.n.toNat<=N))->s.nx+k=(db E.bd E.ms).length->gz ((((db E.bd E.ms).drop s.nx).foldl vQ (s.d.bytes.take N)).take E.n)=E.g2.l->
 (qp E (k+1) s).1=0/\(qp E (k+1) s).2.d.bytes.take N=((db E.bd E.ms).drop s.nx).foldl vQ (s.d.bytes.take N)
 |0,s,h,hst,f,hc,hr,b,hx,hk,c=>by grind[an3,qp]
 |k+1,s,h,hst,f,hc,hr,b,hx,hk,c=>by
  obtain⟨ba,e⟩:∃ba,(db E.bd E.ms)[s.nx]?=ab ba:=⟨_,cC ad⟩;have t:(db E.bd E.ms).drop s.nx=ba::(db E.bd E.ms).drop (s.nx+1):=by grind[List.drop_eq_getElem_cons]
  obtain⟨df,br⟩:=hx ba (cY e);obtain⟨h1,a,g,i,m,o,p⟩:=avF h hst f hc hr b e df br;obtain⟨ev,q⟩:=Uv h hst;obtain⟨r,_⟩:=q h1 a;rw[t,tO,<-p,<-o]at c⊢;have v:=aeT u k (fE E s).2 r a g i (by rw[m];exact hr) (by rw[ev.len h.j.dev];exact b) hx ad c;rw[qp,if_neg (by simp[h1,a])];exact v
end
def amQ{n}(h:44<=n):rS (eU n 0)=none:=by have e:(eU n (0:Int)).take (min (eU n (0:Int)).length 40)=eU 40 0:=aF;have bY:(ER ⟨eU 40 0,0,0,0⟩).ok=false:=ay;unfold rS;rw[e];simp only;rw[if_pos bY]
def adm{sz cnt old}(h:dv (hP sz cnt old)):Clean (hP sz cnt old):=⟨⟨h,aa,by show(-1:Int)<0;decide⟩,aa⟩
theorem IT{sz cnt old}:(hP sz cnt old).bytes=old++eU (sz*cnt -old.length) 0:=by show gv (eU (sz*cnt) 0) 0 old=_;grind[gv]
def asI{sz cnt first bd old id}(a:jg (hP sz cnt old) first bd)(ho:old.length<=first*sz):(qk (hP sz cnt old) first bd id).has=false:=by
 have hc:=adm a.dev
 have b:∀i,i<=1->xM _ _ bd i=none:=λi hi=>by
  have hr:=a.room hi;have f:first*sz<=nj _ _ bd i:=Tm (d:=hP sz cnt old);have e:=Tl a;unfold xM;rw[Ua hc.none a.dev hr];have c:(hP sz cnt old).bytes.length=old.length+(sz*cnt -old.length):=by grind[IT]
  rw[c]at hr;rw[IT,List.drop_append,List.drop_eq_nil_of_le ad,lK,List.drop_replicate,List.take_replicate];exact amQ ad
 unfold qk ti vq;rw[b 0 bf,b 1 bf];rfl
theorem adp{sz cnt k q old}(h:k+q<=old.length):((hP sz cnt old).bytes.drop k).take q=(old.drop k).take q:=by grind[IT]
def auO{old n sz cnt bd ms}(a:oP ⟨bd,old.length,n,e9 old,e9 (l1 old ms n),ms⟩ (hP sz cnt old))(cz:Lays n (ms.map ck))(G:ky ms=ms.length):
 ∃s,vr (hP sz cnt old) bd old.length n (e9 old) (e9 (l1 old ms n)) ms=.inr s/\∀E:mu,E.bd=bd/\E.o=old.length/\E.n=n/\E.first=(dY sz 0 (max old.length n)).2/\E.id=(lB (jk old.length n (e9 old) (e9 (l1 old ms n)) ms)).toNat/\E.ms=ms->E.g1=e9 old->E.g2=e9 (l1 old ms n)->
  nK E s/\(nn E s).1=0/\(nn E s).2.d.bytes.take n=l1 old ms n:=by
 obtain⟨N,B⟩:=ex (max old.length n);obtain⟨b,A⟩:=ex (q5 (hP sz cnt old) bd old.length n (e9 old) (e9 (l1 old ms n)) ms);have i:=a.ok;have hr:=aup (s:=sz) (N:=N) i.kz;have D:jg _ (dY sz 0 (max old.length n)).2 bd:=⟨i,a.bd.1,a.bd.2,by have:=a.lay;unfold ia at this;exact this⟩
 have hno:b.has=false:=by rw[<-A];have hr2:N<=(dY sz 0 (max old.length n)).2*sz:=aF;exact asI D (by show old.length<=(dY sz 0 (max old.length n)).2*sz;omega)
 have u:vr (hP sz cnt old) bd old.length n (e9 old) (e9 (l1 old ms n)) ms=.inr ⟨0,0,ao,b,hP sz cnt old⟩:=by grind[vr]
 refine⟨_,u,λE q bB bY=>?_⟩;obtain⟨h1,_⟩:=MS a aa (cF _) u q;obtain⟨c,v,w,x,I,f⟩:=q;refine⟨h1,?_⟩;have hc:=adm i
 have C:N<=(hP sz cnt old).bytes.length:=by have P:=h1.e.old;have Q:=h1.e.new;grind
 have j:∀m∈ms,mP old.length n m:=a.sg.fits;have hb1:1<=bd:=a.bd.1;have z:((hP sz cnt old).bytes.take N).length=N:=aF;have hst:=avI (o:=old.length) (n:=n) (N:=N) (F0:=(hP sz cnt old).bytes.take N) (s:=(bd:Int)) aa ad ad z (λp T=>by grind[IT]) cz j G ad
 have U:xQ E ⟨0,0,ao,b,hP sz cnt old⟩=0:=by
  unfold xQ;rw[if_pos aa];show w3 E (hP sz cnt old)=0;unfold w3;rw[c,v,f,bB,bY,T1 hc hb1 ad,adp ad,Hd,kH,if_pos (show gz _=(e9 _).l from aa)]
  have y:(q' ms).flatMap (pY (hP sz cnt old) bd)=vW old ms:=by
   unfold vW;rw[aka,aka];congr 1;refine List.map_congr_left λm S=>?_;have F:m∈ms:=by grind[q']
   obtain⟨H,v2,v3⟩:=j m F;unfold pY hX;by_cases hk:m.k=1;·have g:=H.copy hk;grind[T1,adp]
   .grind
  rw[y,ats aa cz j,if_pos (show gz _=(e9 _).l from aa)]
 unfold nn;rw[if_neg ad]
 have hrun:=aeT (E:=E) (N:=N) ad _ _ h1 (λh:(0:Int)=2=>absurd h bf) aa hc (by rw[x,B];exact hr) C (λba r=>by
  rw[c,f]at r;obtain⟨t,J,K,L,M,O⟩:=a.ch ba r;grind[b5]) (jt _) (by
  rw[c,w,f,bY];show gz ((((db (bd:Int) ms).drop 0).foldl vQ ((hP sz cnt old).bytes.take N)).take n)=_;rw[Hd,hst];rfl);refine⟨hrun.1,?_⟩;have R:=hrun.2;have g:((qp E ((db E.bd E.ms).length+1) ⟨0,0,ao,b,hP sz cnt old⟩).2.d.bytes.take N).take n=l1 old ms n:=aF;rw[QU,wQ ad]at g;exact g
end
section
open Go.RowKit Go.MapKept
def td(b n m:Nat):bp:=⟨λi=>i=b,λw=>∃a:List (Int×aO),dM w b yM c4 a/\a.length<=n -m/\∀i:Nat,dX a (i:Int)=if m<=i/\i<n then ab (J R (i:Int))else af,λw w' h f d=>by obtain⟨a,⟨es,e,hb,r⟩,c⟩:=d;exact⟨a,⟨es,_,AT h aa hb,r⟩,c⟩⟩
section
variable {P:Program} {o:Oper} {a:Act} {w:World}
def asx{t:Nat}n(ho:o.op=.makeMap t af):∃B w',(bt a.eval o).run P w=.ok (.value (dj (ab B))) w'/\cf w w' (td B n n):=by
 refine⟨_,_,?_,au.alloc _ _,⟨[],dM.made w _ _,cF _,λ_=>by rw[if_neg ad];rfl⟩,λb hb=>?_⟩;·grind[bt,ga,run_makeMap,jc,jK]
 .have e:b=w.heap.size:=hb;rw[e];simp
def auQ{m x v}{b j n:Nat}(ho:o.op=.mapUpdate 118 m x v)(l:a.eval m=dj (ab b))(hx:a.eval x=J R (j:Int))(hv:a.eval v=J R (j:Int))(h:(td b n (j+1)).p w)(c:j<n)(hn:n<=1048576):
 ∃w',(bt a.eval o).run aw w=.ok .skip w'/\Turned w w' (td b n (j+1)) (td b n j):=by
 obtain⟨s,g,hle,r⟩:=h;obtain⟨w',hrun,h1,d,q⟩:=g.update Mx sw (by grind[maxLen]) (x:=(j:Int)) ⟨ad,ad⟩ (J R (j:Int));have f:au (λj=>j=b) w w':=au.of_grownBy d (λk hk=>bM aF);refine⟨w',?_,f,⟨_,h1,?_,λi=>?_⟩,λj c=>⟨by have e:j=b:=c;rw[e];exact h1.lt,bM c⟩⟩;·unfold bt;simp only[ho,l,hx,hv];have e:(yM _)=J _ (j:Int):=rfl;rw[e]at hrun;simp[hrun]
 .grind[TC]
 .grind[MO]
def asy{m x}{b i n:Nat}(ho:o.op=.lookup 118 m x az)(f:a.eval m=dj (ab b))(hx:a.eval x=J R (i:Int))(h:(td b n 0).p w)(hi:i<n)(hn:n<=1048576):
 (bt a.eval o).run aw w=.ok (.value (bm #[J R (i:Int),ai az])) w:=by
 obtain⟨g,c,_,e⟩:=h;have d:=(c.lookup Mx sw Ol (x:=(i:Int)) ⟨ad,ad⟩).2;grind[bt,yM,ga,jc,jK]
end
def aoo b(n v)E F w(f:(rW F b n E).p w)(hv:c4 v)(h:E.length<=1099511627776):
 aD aw 92 #[ax (ab ⟨b,0,af⟩),J R v] w λe w'=>∃a c,e=aB (ae a (G.jy E v).length c)/\cf w w' (bk a (G.jy E v).length c 3 1 ((G.jy E v).map (J R))):=
 (G.adN b n v E F w f hv h).mono λe w' ⟨r,d,ho,g⟩=>by
  have ho:w'.ownsRow _ 3 1 r _ _:=ho;rcases ho.2 with⟨rfl,hz⟩|⟨q,cap,cur,rfl,hb,r⟩;·rw[hz]at ho⊢;exact⟨af,0,d,g,zd ho (cF _),λ_ ⟨_,_,e⟩=>aF⟩
  .exact⟨ab ⟨q,0,af⟩,cap,d,g,zd ho (cF _),λb ⟨o,i,e⟩=>aF⟩
def oM(E:List (Int×Int))(i q:Nat):List (Int×Int):=(((G.jy E (i:Int)).take q).filter (λx=>decide (x<(i:Int)))).map (λx=>((i:Int),x))
def v7(E:List (Int×Int))(i:Nat):List (Int×Int):=(dG i).flatMap (λi=>oM E i (G.jy E (i:Int)).length)
def afO E i:v7 E (i+1)=v7 E i++oM E i (G.jy E (i:Int)).length:=by simp[v7,pQ]
def afM E(i q):(oM E i q).length<=E.length:=by grind[oM,G.TV]
def afN E:∀i,(v7 E i).length<=i*E.length
 |0=>cF _
 |i+1=>by have:=afN E i;have a:=afM E i (G.jy E (i:Int)).length;rw[afO,c',tT];omega
def awg{E}{i q:Nat}{x}(h:(G.jy E (i:Int))[q]?=ab x):oM E i (q+1)=if x<(i:Int)then oM E i q++[((i:Int),x)]else oM E i q:=by unfold oM;rw[gg,h,z1,List.filter_append];grind
def awh{E}{n:Nat}(c:∀e∈E,0<=e.1/\e.1<(n:Int)):(v7 E n).length=0↔∀e∈E,¬e.2<e.1:=by
 rw[QT];unfold v7;rw[List.flatMap_eq_nil_iff];constructor;·intro h e b hlt;obtain⟨h1,d⟩:=c e b;have a:=h e.1.toNat (kq.2 ad);unfold oM at a;rw[List.map_eq_nil_iff,kH,Hg,Int.toNat_of_nonneg h1]at a;exact a e.2 (G.IM.2 b) aF
 .grind[oM,Hg,G.IM]
def Na(cT jA b n i)w(c:(td b n 0).p w)(hb:aU w cT #[dj (ab b)] 118)(hi:i<n)(hn:n<=1048576):
 aD aw 90 #[J R (i:Int),ax (ab ⟨cT,0,af⟩),ax (ab ⟨jA,0,af⟩)] w λe w'=>e=aB (J R (i:Int))/\ar w w':=by
 have f:=hid c;have d:=hid hb;clear c hb;go_enter func90,ntmps90;have a:=bc w;go_step;refine ah ?_;refine en ?_;refine iL d.out a.only ?_;refine ag ?_;refine aI _ (asy aa aa aa f hi hn) ?_;refine v5 ?_;refine ah ?_;refine ag ?_;refine ah ?_;refine dZ ?_;go_wp2_with fail;go_ret;exact⟨aa,a.only⟩
theorem YG:∀{n k},k<n->(sM n)[k]?=ab (((n -1 -k:Nat):Int),((n -1 -k:Nat):Int))
 |n+1,0,_=>by rfl
 |n+1,k+1,h=>by rw[sM,List.getElem?_cons_succ,YG (by omega:k<n),show n+1 -1 -(k+1)=n -1 -k by omega]
def Rh:∀n,(sM n).length=n
 |0=>aa
 |n+1=>by rw[sM,js,Rh n]
def als{n pre x}(h:pre++[x]<+:sM n):∃j,pre.length+j+1=n/\x=((j:Int),(j:Int)):=by have h1:=h.length_le;rw[c',rI,Rh]at h1;obtain⟨t,b⟩:=h;have a:(sM n)[pre.length]?=ab x:=aF;grind[YG]
def BV(ms:List bJ)(k:Nat):Prop:=k=0↔∀e,DC ms e->¬e.2<e.1
def Zu{ms e}(h:DC ms e):0<=e.1/\e.1<(ms.length:Int):=by obtain⟨i,j,rfl,h⟩:=h;grind[Cd]
def Zw{ms u x}(h:DC ms (u,x)):0<=x/\x<(ms.length:Int):=by obtain⟨i,j,e,h⟩:=h;grind[Cd]
def awp(A i)(c o)ms w(Q:cX w A ms)(hv:Dy ms)(dR:ms.length<=20)(ho:c8 w i (oI ms.length)):
 aD aw 38 #[ae A ms.length c,ae i ms.length o] w λe w'=>∃ aA k,BV ms k/\(∃aC,e=aB (ae aA k aC))/\ar w w':=by
 have cH:=hid Q;have cB:=hid hv;have hn:=dR;have hG:=λcT=>ala _ o i ad cT w _ (λW g=>ho.aG g);have Ki:=hid (λW g=>YV A c ms W (Q.aG g) hv);clear Q hv dR ho;refine Ag func38 aa ?_;simp only[ntmps38,List.size_toArray,js,List.length_nil,Array.replicate_succ,Array.replicate_zero,List.push_toArray,List.append_toArray,lK,List.cons_append];have a:=bc w;go_step;refine ah ?_;refine bG a (ae i _ o) (λr w1 a=>?_);refine ag ?_;refine an ?_;go_step;refine ah ?_;refine I3 a (asx ms.length aa) (λn aW a=>?_);refine bA a #[dj _] (λs bI a=>?_);refine a' a 0 (dj _) (λcc a=>?_);refine an ?_;go_step;refine ah ?_;refine pl a 2 0 ?_;refine aP (alb i _ o _) ?_;rintro e cJ ⟨OH,rfl,z⟩;replace a:=a.new _ z;refine aQ ?_;refine an ?_;go_wp2_with fail;have e4:ak _ _ _ [aj OH _ 82,bK [td _ _ _,aj _ _ 118],bK [aj _ #[ae i _ o] 82]]:=ak.B2 (a.pick [0,2,1,3]);refine Gd (encs:=(λe:Int×Int=>#[J R e.1,J R e.2])) aa (enters_of func178 aY aa) (λ_=>aa) (hG _) (λpre t=>t=bK [td _ _ (ms.length -pre.length),aj _ _ _]) (λ_ _ _=>False) aa e4 ?_ ?_ ?_;all_goals clear e4 a
 .rintro l rd pre x W t F eO oG rfl a;obtain⟨j,AA,rfl⟩:=als eO;rw[show ms.length -pre.length=j+1 by omega]at a;have nf:j<ms.length:=ad;clear eO;replace a:=a.kg;repeat((fail_if_success (with_reducible refine at_region ?_));gi_step)
  refine jG ?_;refine ag ?_;refine an ?_;repeat((fail_if_success (with_reducible refine at_region ?_));gi_step)
  refine jG ?_;refine ag ?_;refine an ?_;first|refine wpIn_skip ?_|skip
  simp only[Exit.then];refine Ab a 2 oG (λc5 a=>?_);replace a:ak _ _ _ [td _ _ _,aj _ _ _,obj l _,F]:=a;repeat((fail_if_success (with_reducible refine at_region ?_));gi_step)
  refine jG ?_;refine pl a 1 0 ?_;refine v2 ?_;refine I2 a 0 (auQ aa aa aa aa (a.at 0) nf ad) (λdK a=>?_);refine an ?_;repeat gi_step
  have M:=a.pk [0,1,2,3];replace M:ak _ _ _ [bK [td _ _ j,aj _ _ _],obj l _,F]:=M.fv 2;refine⟨_,?_,M⟩;exact by grind
 .rintro D t u W rfl V a;replace a:=a.kg;replace a:=(a.pk [4,0,1,2,3]).kg;rw[Rh,Nat.sub_self]at a;clear hG;go_step;refine ah ?_;refine v2 ?_;refine an ?_;go_step;refine ah ?_;refine ag ?_;refine an ?_;go_step;refine ah ?_;refine ag ?_;refine aP (Ki _ a.only) ?_;rintro e dz ⟨b,H,S,U,hg,rfl,z⟩;replace a:=a.new _ z;refine aQ ?_;refine ag ?_;refine an ?_;go_step;refine ah ?_;refine v3 ?_;refine an ?_;have ff:=YZ cB U;have T:=λe=>arT U (e:=e);obtain⟨E,dH⟩:=ex (ua ms S);rw[dH]at a ff T;have I:=hid T;have Z:=hid ff;clear dH T U hg;replace a:=a.new (bk af 0 0 192 2 []) ⟨au.refl _ _,Row.nil _ _ _ _,λb ⟨_,_,e⟩=>aF⟩;go_wp2_with fail;go_loopw [9,27] (λC p wr=>∃(j:Nat) (d:Option bQ) (f:Nat),j<=ms.length/\C=ae d (v7 E j).length f/\p=J R (j:Int)/\ak w (λ_=>False) wr [bk d ((v7 E j).length) f 192 2 (o7 (v7 E j)),rW H b ms.length E,aj r #[ae i ms.length o] 82,td n ms.length 0,aj s #[dj (ab n)] 118,u,obj D (.deferred (ab []))]) (λC p wr=>ms.length -(cO p).toNat);case atStart=>exact⟨0,_,0,cF _,aa,aa,a⟩
  case round=>
   clear a;obtain⟨j,d,f,hj,rfl,rfl,a⟩:=hrel;have X:=afN E j;obtain⟨L,cz⟩:=ex (v7 E j);rw[cz]at a X⊢;have va:=hid cz;clear cz;by_cases hlt:j<ms.length
   .have cN:(j:Int)<(ms.length:Int):=ad;have acg:L.length<=20000000:=ea X (ea (Eg (by omega:j<=20) Z) ad);clear X;go_step;refine ah ?_;refine bu (ai az) ?_;refine an ?_;go_step;refine ah ?_;refine v2 ?_;refine an ?_;obtain⟨os,K⟩:=ex (G.jy E (j:Int));have GV:=hid (λW h=>aoo b ms.length (j:Int) E H W h ⟨ad,ad⟩ ad);have apX:=G.TV E (j:Int);rw[K]at GV apX;have Xo:=hid K;have ajP:aE (∀x∈os,0<=x/\x<(ms.length:Int)):=hid (λx hx=>by rw[<-K]at hx;have h2:=(I _).1 (G.IM.1 hx);exact Zw h2);clear K;go_step;refine ah ?_;refine v2 ?_;refine aP (GV _ (a.at 1)) ?_;rintro e eY ⟨kC,kt,rfl,z⟩;replace a:=a.new _ z;refine aQ ?_;refine v2 ?_;refine an ?_;have cj:=a.pk [1,2,3,4,5,6,7,0];go_wp2_with fail;go_loopw [9,34] (λC p wr=>∃(q:Nat) (d:Option bQ) (f:Nat),q<=os.length/\C=ae d (L++oM E j q).length f/\p=J R (q:Int)/\ak w (λ_=>False) wr [bk d ((L++oM E j q).length) f 192 2 (o7 (L++oM E j q)),rW H b ms.length E,aj r #[ae i ms.length o] 82,td n ms.length 0,aj s #[dj (ab n)] 118,u,obj D (.deferred (ab [])),bk kC os.length kt 3 1 (os.map (J R))]) (λC p wr=>os.length -(cO p).toNat);case atStart=>exact⟨0,d,f,cF _,by simp[oM],aa,by simp only[oM,List.take_zero,List.filter_nil,kp,j1];exact cj⟩
    case round=>
     clear a cj;obtain⟨q,d,f,hq,rfl,rfl,a⟩:=hrel;have pf:=afM E j q;have aoK:(L++oM E j q).length<=21000000:=by have h2:=Z.out;rw[c'];omega
     obtain⟨O,P⟩:=ex (L++oM E j q);rw[P]at a aoK⊢;have N:=hid P;clear P pf;by_cases AG:q<os.length
     .have SF:(q:Int)<(os.length:Int):=ad;obtain⟨x,hx⟩:∃x,os[q]?=ab x:=⟨_,cC AG⟩;have y6:=ajP x (cY hx);obtain⟨y,rfl⟩:∃y:Nat,x=(y:Int):=⟨x.toNat,ad⟩;have Mq:y<ms.length:=ad;have Y:(os.map (J R))[q]?=ab (J R (y:Int)):=by rw[lr,hx];rfl
      have Qz:=hid Y;have v:aE (L++oM E j _=if(y:Int)<(j:Int)then O++[((j:Int),(y:Int))]else O):=hid (by rw[awg (by rw[Xo.out];exact hx)];split;rw[<-j0,N];exact N);obtain⟨g0,bC,_⟩:=(a.atR 7).cell Y;subst bC;clear hx Y y6;go_step;refine ah ?_;refine bu (ai az) ?_;refine an ?_;go_step;refine ah ?_;refine aI (ax (ab ⟨g0,q,af⟩)) (cq 82 3 1 (bj 32) (bj 34) aa hR aY g0 0 _ kt q q aa aa AG ad) ?_;refine aI (J R (y:Int)) (AY (a.atR 7) Qz aa aa aY) ?_;refine ag ?_;refine an ?_;by_cases acw:(y:Int)<(j:Int)
      .rw[if_pos acw]at v;go_step;refine ah ?_;refine v2 ?_;refine aP (Na s r n ms.length y _ (a.at 3) (a.aX 4) ad ad) ?_;rintro e gQ ⟨rfl,g⟩;replace a:=a.aG g;refine aQ ?_;refine v2 ?_;refine aP (Na s r n ms.length j _ (a.at 3) (a.aX 4) ad ad) ?_;rintro e ib ⟨rfl,g⟩;replace a:=a.aG g;refine aQ ?_;refine bu (ai az) ?_;refine an ?_;go_step;refine ah ?_;refine v4 ?_;refine fC a #[J R (j:Int),J R (y:Int)] 192 (λaxW jS a=>?_);refine lZ (m:=1) a 1 16 (aU.cellsOf (m:=1) (a.aX 0) aa) (by intro u V;simp at V;rcases V with rfl|rfl<;>rfl) (λaxt ayK kh a=>?_) (hby:=by omega);refine ag ?_;refine an ?_;go_step;refine ah ?_;refine pad _ 1 ((q+1:Nat):Int) ?_;refine ag ?_;refine an ?_;go_wp2_with fail;go_roundw;case rel=>exact⟨q+1,_,_,ad,by rw[v,c',rI],aa,by rw[v,ZI,c',rI];exact a.pick [1,2,3,4,5,6,7,8]⟩
       case measure=>simp[cO]<;>omega
      .rw[if_neg acw]at v;go_step;refine ah ?_;refine v2 ?_;refine aP (Na s r n ms.length y _ (a.at 3) (a.aX 4) ad ad) ?_;rintro e lf ⟨rfl,g⟩;replace a:=a.aG g;refine aQ ?_;refine v2 ?_;refine aP (Na s r n ms.length j _ (a.at 3) (a.aX 4) ad ad) ?_;rintro e mr ⟨rfl,g⟩;replace a:=a.aG g;refine aQ ?_;refine bu (ai ao) ?_;refine an ?_;go_step;refine ah ?_;refine pad _ 1 ((q+1:Nat):Int) ?_;refine ag ?_;refine an ?_;go_wp2_with fail;go_roundw;case rel=>exact⟨q+1,d,f,ad,by rw[v],aa,by rw[v];exact a.pick [0,1,2,3,4,5,6,7]⟩
       case measure=>simp[cO]<;>omega
     .have SF:¬(q:Int)<(os.length:Int):=ad;obtain rfl:q=os.length:=ad;have XD:aE (v7 E _=O):=hid (by rw[afO,Xo,va];exact N);go_step;refine ah ?_;refine bu (ai ao) ?_;refine an ?_;go_step;refine ah ?_;refine pad _ 1 ((j+1:Nat):Int) ?_;refine ag ?_;refine an ?_;go_wp2_with fail;go_roundw;case rel=>exact⟨j+1,_,_,ad,by rw[XD],aa,by rw[XD];exact a.pick [0,1,2,3,4,5,6]⟩
      case measure=>simp[cO]<;>omega
   .have cN:¬(j:Int)<(ms.length:Int):=ad;obtain rfl:j=ms.length:=ad;go_step;refine ah ?_;refine bu (ai ao) ?_;refine an ?_;go_step;refine ah ?_;refine v2 ?_;refine an ?_;go_wp2_with fail;refine xw a 6 (λw' a=>⟨results_tmp aa _ _ _,?_⟩);replace a:ak _ _ _ [bk d _ f _ 2 _,rW H b _ E,aj _ _ 82,td _ _ 0,aj _ _ _,u,obj D _]:=a;exact⟨d,_,by rw[<-va];exact(awh (λe B=>Zu ((I e).1 B))).trans ⟨λh e B=>h e ((I e).2 B),λh e B=>h e ((I e).1 B)⟩,⟨f,aa⟩,a.only⟩
 .simp
end
open Go.RowKit Go.MapKept
def aeK A(n c y)w(ho:c8 w A (oI n))(q:y<n)(hn:n<=1048576):
 aD aw 95 #[ae A n c,J R (y:Int)] w λe w'=>e=aB (J R (y:Int))/\ar w w':=by
 have k:=hid ho;have s:=hn;have t:=q;obtain⟨f,b,m,_⟩:=ho (by grind[acG]);have d:=hid m;clear ho m;go_enter func95,ntmps95;have a:=bc w;go_step;refine ah ?_;refine ag ?_;refine ah ?_;refine ag ?_;refine an ?_;go_wp2_with fail;go_loopw [5] (λi wr=>∃j:Nat,j<=y/\i=J R (j:Int)/\ak w (λ_=>False) wr []) (λi wr=>n -(cO i).toNat);case atStart=>grind
 case round=>
  clear a;obtain⟨j,r,rfl,a⟩:=hrel;have g:j<n:=ad;have l:=hid (acF g);go_step;refine ah ?_;refine v3 ?_;refine bu (ai az) ?_;refine an ?_;by_cases p:j=y;·subst p;refine hE ?_;refine aI (ax (ab ⟨f,(b+j),af⟩)) (cq 82 3 1 (bj 12) (bj 13) aa hR ay f b n c j ((b+j)) (by show ae A _ _=_;rw[d]) aa g ad) ?_;refine aI _ (po aa aa (c8.cell (k.out.aG a.only) d l) ay) ?_;refine ag ?_;refine aI (ai az) (by(go_simp;try simp)) ?_;refine ah ?_;refine dZ ?_;go_wp2_with fail;go_ret;exact⟨aa,a.only⟩
  .have o:aE ((((j:Int))==(y:Int))=ao):=hid (beq_eq_false_iff_ne.2 ad);refine hE ?_;refine aI (ax (ab ⟨f,(b+j),af⟩)) (cq 82 3 1 (bj 12) (bj 13) aa hR ay f b n c j ((b+j)) (by show ae A _ _=_;rw[d]) aa g ad) ?_;refine aI _ (po aa aa (c8.cell (k.out.aG a.only) d l) ay) ?_;refine ag ?_;refine aI (ai ao) (by(have h:=o.out;go_simp;try simp[h];try omega)) ?_;refine b' ?_;refine pad (j:Int) 1 ((j+1:Nat):Int) ?_;refine bP ?_;go_wp2_with fail;go_roundw;case rel=>exact⟨j+1,ad,aa,a⟩
   case measure=>simp[cO]<;>omega
def uS(E:List (Int×Int))(k:Nat):List (Int×Int):=(E.take k).filter (λe=>decide (e.2<e.1))
def awd E k:(uS E k).length<=E.length:=ea (List.length_filter_le _ _) (List.length_take_le' _ _)
def awf{E k e}(h:E[k]?=ab e):uS E (k+1)=if e.2<e.1 then uS E k++[e]else uS E k:=by unfold uS;grind[gg]
def awe ms:BV ms (uS (nk ms ms.length) (nk ms ms.length).length).length:=by unfold BV uS;rw[kH,QT,Hg];refine⟨λh e a hlt=>h e (TB.2 a) aF,λh e a hlt=>h e (TB.1 a) aF⟩
def alM{E k e}(h:E[k]?=ab e):(jN E)[k*2]?=ab (J R e.1)/\(jN E)[k*2+1]?=ab (J R e.2):=by
 induction E generalizing k with
 |nil=>grind
 |cons y l a=>
  cases k with
  |zero=>
   obtain rfl:y=e:=aF;exact⟨aa,aa⟩
  |succ k=>grind[jN]
def auT(A r)(c B)ms w(D:cX w A ms)(hv:∀m∈ms,gW m/\(m.k=1->et (src m)))(F:ms.length<=20)(ho:c8 w r (oI ms.length)):
 aD aw 41 #[ae A ms.length c,ae r ms.length B] w λe w'=>∃ V k,BV ms k/\(∃Y,e=aB (ae V k Y))/\ar w w':=by
 have cH:=hid D;have M:=hid ho;have hn:=F;have I:=hid (λW g=>auk A c ms W (D.aG g) ad hv);have Q:=hid (awe ms);have P:=hid (λe (h:e∈nk ms _)=>TB.1 h);have G:=aew ms ms.length;obtain⟨E,S⟩:=ex (nk ms ms.length);rw[S]at I Q P G;have aze:E.length<=400:=ea G (Eg F F);clear D hv ho S G;go_enter func41,ntmps41;have d:=bc w;go_step;refine ah ?_;refine ag ?_;refine UU ?_;refine aP (I.out _ d.only) ?_;rintro e w1 ⟨b,rfl,aJ,c2,hF⟩;replace d:=d.new _ hF;refine Ds ?_;replace d:=d.kg;replace d:=d.new (bk af 0 0 174 2 []) ⟨au.refl _ _,Row.nil _ _ _ _,λb ⟨_,_,e⟩=>aF⟩;refine ah ?_;refine ag ?_;refine an ?_;go_wp2_with fail;go_loopw [5,7] (λU H wr=>∃(k:Nat) (p:Option bQ) (q:Nat),k<=E.length/\U=ae p (uS E k).length q/\H=J R (k:Int)/\ak w (λ_=>False) wr [bk p ((uS E k).length) q 174 2 (jN (uS E k)),aj b #[J R (ms.length:Int),ae aJ E.length c2] 169,bk aJ E.length c2 174 2 (jN E)]) (λU H wr=>E.length -(cO H).toNat);case atStart=>exact⟨0,_,0,cF _,aa,aa,d⟩
 case round=>
  clear d;obtain⟨k,p,q,hk,rfl,rfl,d⟩:=hrel;have vO:=awd E k;obtain⟨L,cz⟩:=ex (uS E k);rw[cz]at d vO⊢;have K:=hid cz;clear cz;by_cases hlt:k<E.length
  .have cN:(k:Int)<(E.length:Int):=ad;obtain⟨⟨u,x⟩,hx⟩:∃e,E[k]?=ab e:=⟨_,cC hlt⟩;have C:=P _ (cY hx);have h1:=Zu C;have Z:=Zw C;simp only at h1;obtain⟨a,rfl⟩:∃a:Nat,u=(a:Int):=⟨u.toNat,ad⟩;obtain⟨y,rfl⟩:∃y:Nat,x=(y:Int):=⟨x.toNat,ad⟩;have aoZ:a<ms.length:=ad;have Mq:y<ms.length:=ad;obtain⟨hc1,hc2⟩:=alM hx;have l:aE (uS E _=if(y:Int)<(a:Int)then L++[((a:Int),(y:Int))]else L):=hid (by rw[awf hx,K]);obtain⟨f,bC,_⟩:=(d.atR 2).cell hc1;subst bC;have s:=hid hc1;have t:=hid hc2;clear hx C h1 Z hc1 hc2;go_step;refine ah ?_;refine v4 ?_;refine pl d 1 1 ?_;refine ag ?_;refine bu (ai az) ?_;refine an ?_;have O:=hid (λW g=>aeK r _ B y W (M.out.aG g) Mq ad);have N:=hid (λW g=>aeK r _ B a W (M.out.aG g) aoZ ad);have X:aE (∀W,Row 0 W _ E.length c2 174 2 _->W.rangeAt f (k*2) [J R (a:Int),J R (y:Int)]):=hid (λW h i v hi=>by match i,hi with|0,hi=>cases hi;exact h.cellAt s|1,hi=>cases hi;exact h.cellAt t|n+2,hi=>simp at hi);by_cases o:(y:Int)<(a:Int)
   .rw[if_pos o]at l;have z:=hid o;clear o;refine cx ?_;refine bN d [9,19] (λi _=>match i with|9=>J R (y:Int)|19=>J R (a:Int)|_=>a1) (λ_ _=>emp) (λ_=>[]) (λ|4=>[1]|8=>[2]|14=>[1]|18=>[2]|_=>[]) (λ_=>[]) [0,1,2,12,22] (λus=>?_);refine hD ?_;refine dl 0 1 ?_;refine aK ?_;refine aN _ (λ_ _ _=>cq 98 174 2 _ _ aa J5 ay f 0 _ c2 k ((k*2)) aa aa hlt ad) ?_;refine aK ?_;refine aN _ (λ_ _ d=>AY (d.atR 0) t aa aa ay) ?_;refine dD (λj _ d=>O j d.only) ?_;refine hD ?_;refine dl 0 1 ?_;refine aK ?_;refine aN _ (λ_ _ _=>cq 98 174 2 _ _ aa J5 ay f 0 _ c2 k ((k*2)) aa aa hlt ad) ?_;refine aK ?_;refine aN _ (λ_ _ d=>AY (d.atR 0) s aa aa ay) ?_;refine dD (λj _ d=>N j d.only) ?_;refine aN (ai az) (λ_ _ _=>by(have h:=z.out;go_simp;try omega)) ?_;refine bU λaW d=>?_;replace d:=d.drop 3;replace d:=d.drop 3;refine n3 ?_;refine pl d 1 1 ?_;refine ag ?_;refine aI _ (cq 98 174 2 _ _ aa J5 ay f 0 _ c2 k ((k*2)) aa aa hlt ad) ?_;refine aI _ (by(refine eC _ _ aa f _ aa _ (X _ (d.atR 2)) underlying174 aa ay)) ?_;refine fC d #[J R (a:Int),J R (y:Int)] 174 (λaxV bI d=>?_);refine lZ (m:=1) d 1 16 (aU.cellsOf (m:=1) (d.aX 0) aa) (by intro u T;simp at T;rcases T with rfl|rfl<;>rfl) (λaxs ayJ cc d=>?_) (hby:=by omega);refine cK ?_;refine pad (k:Int) 1 ((k+1:Nat):Int) ?_;refine bP ?_;go_wp2_with fail;go_roundw;case rel=>exact⟨k+1,_,_,ad,by rw[l,c',rI],aa,by rw[l,Lf,c',rI];exact d.pick [1,2,3]⟩
    case measure=>simp[cO]<;>omega
   .rw[if_neg o]at l;have z:=hid o;clear o;refine cx ?_;refine bN d [9,19] (λi _=>match i with|9=>J R (y:Int)|19=>J R (a:Int)|_=>a1) (λ_ _=>emp) (λ_=>[]) (λ|4=>[1]|8=>[2]|14=>[1]|18=>[2]|_=>[]) (λ_=>[]) [0,1,2,12,22] (λus=>?_);refine hD ?_;refine dl 0 1 ?_;refine aK ?_;refine aN _ (λ_ _ _=>cq 98 174 2 _ _ aa J5 ay f 0 _ c2 k ((k*2)) aa aa hlt ad) ?_;refine aK ?_;refine aN _ (λ_ _ d=>AY (d.atR 0) t aa aa ay) ?_;refine dD (λj _ d=>O j d.only) ?_;refine hD ?_;refine dl 0 1 ?_;refine aK ?_;refine aN _ (λ_ _ _=>cq 98 174 2 _ _ aa J5 ay f 0 _ c2 k ((k*2)) aa aa hlt ad) ?_;refine aK ?_;refine aN _ (λ_ _ d=>AY (d.atR 0) s aa aa ay) ?_;refine dD (λj _ d=>N j d.only) ?_;refine aN (ai ao) (λ_ _ _=>by(have h:=z.out;go_simp;try omega)) ?_;refine bU λcJ d=>?_;replace d:=d.drop 3;replace d:=d.drop 3;refine b' ?_;refine pad (k:Int) 1 ((k+1:Nat):Int) ?_;refine bP ?_;go_wp2_with fail;go_roundw;case rel=>exact⟨k+1,p,q,ad,by rw[l],aa,by rw[l];exact d.pick [0,1,2]⟩
    case measure=>simp[cO]<;>omega
  .have cN:¬(k:Int)<(E.length:Int):=ad;obtain rfl:k=E.length:=ad;go_step;refine ah ?_;refine v4 ?_;refine pl d 1 1 ?_;refine ag ?_;refine bu (ai ao) ?_;refine ah ?_;refine dZ ?_;go_wp2_with fail;go_ret;exact⟨p,_,by rw[<-K];exact Q,⟨q,aa⟩,d.only⟩
def al8{o}{n sz bd mo:Nat}{old ms}(h:KN old.length o (n:Int) (sz:Int) (bd:Int) (mo:Int) ms)(fS fD):oP ⟨bd,old.length,n,fS,fD,ms⟩ (hP sz (ia sz bd (max old.length n)+mo) old):=by
 obtain⟨g,hsm,rfl,jx,hsz,f⟩:=h;have hr:=hsm.ok;have a:=hr.sg hsm.dI;have hn:=hsm.hn;have e:=hsm.jx;have hfw:=hsm.cnt jx;rw[wK]at hfw;have b:=acV (size:=sz) (bd:=bd) (N:=max old.length n) (mo:=mo) ad ad ad ad ad;have d:1<=ia sz bd (max old.length n):=by grind[iZ,ia]
 refine⟨TI ad ad b ?_,⟨aF,aF⟩,⟨aF,aF⟩,a,?_,?_,amt (s:=bd) ad a.fits⟩;·exact ea (Nat.le_max_left _ n) (IH (s:=sz) (N:=_) ad)
 .show ia sz bd (max old.length n)<=ia sz bd (max old.length n)+mo;omega
 .rw[amu (λm c=>(a.fits m c).1)];exact ea hfw.sum bf
def atB{ms k}(h:BV ms k):k=0↔ky ms=ms.length:=by
 unfold BV at h;rw[h];constructor
 .intro f;refine aed λi hi=>?_;obtain⟨m,a⟩:∃m,ms[i]?=ab m:=⟨_,cC hi⟩;unfold th;rw[a];simp only;unfold zg;cases hk:decide (m.k=1)with
  |false=>rfl
  |true=>
   rw[Bi,XQ];intro e b c;obtain⟨y,d,rfl⟩:=fL.1 b;obtain⟨j,g,rfl⟩:=XV.1 d;have l:j<i/\j<ms.length:=ad;exact f ((i:Int),(j:Int)) ⟨i,j,aa,Cd.2 ⟨m,_,a,cC l.2,ad,of_decide_eq_true hk,c⟩⟩ ad
 .rintro n e ⟨i,j,rfl,b⟩ hlt;obtain⟨m,y,a,d,hne,hk,c⟩:=Cd.1 b;have hlt:j<i:=ad;obtain⟨hi,_⟩:=e5.1 a;obtain⟨g,o⟩:=e5.1 d;have h1:=aee n hi;unfold th at h1;rw[a]at h1;simp only at h1;unfold zg at h1;rw[decide_eq_true hk,Bi,XQ]at h1;exact h1 _ (fL.2 ⟨y,XV.2 ⟨j,ad,o⟩,aa⟩) c
def atA ms:ky ms<=ms.length:=by grind[ky,BO]
section
attribute [local irreducible] wpList cM
def avD(b aJ)(c1 c2 a n)(bs xs)w(hx:bX w b bs)(h:bX w aJ xs)(hb:bs.length=a)(hn:xs.length=n)(hc:a<=c1)(hle:n<=a)(j:a<=1048576)(f:bs.take n=xs):
 aD aw 18 #[ae b a c1,ae aJ n c2] w λe w'=>e=aB (J R 1)/\ar w w':=by
 have d:=hx.Dl (q:=n) ad;rw[f]at d;have i:aE (∀W,ar w W->aD _ 22 #[ae b n c1,ae aJ n c2] W λe w'=>e=aB _/\ar W w'):=hid (λW g=>by rw[<-hn];exact avk b aJ c1 c2 xs W (d.aG g) (h.aG g) ad);have hz:¬((a:Int)<(n:Int)):=ad;clear hx h d f hn;go_enter func18,ntmps18;have c:=bc w;go_upto_region 0 with fail;refine cm ?_;refine xU ?_;refine bu (ai ao) ?_;refine v4 ?_;refine aI _ (qt 22 5 1 _ _ aa dL ay b a c1 n aa aa ad) ?_;refine ag ?_;refine bH (i _ c.only) c (λw1 c=>?_);refine v2 ?_;refine ah ?_;refine ag ?_;refine an ?_;go_wp2_with fail;go_ret;exact⟨aa,c.only⟩
def adn{C:sq}{B c A m d W t}(f:gM t A c C.ms)(e:Has W t)(hap:∀b,t.cR b->¬(aL B m d).cR b):∀a,au (aL B m d).cR W a->cX a A C.ms:=λa g=>f.vZ (t.nO W a (λb hb hlt=>g.block b hlt (hap b hb)) e.2 e.1)
def akH C(B c)A m d W t(h:oP C d)(i:d.down=ao)(k:ky C.ms<C.ms.length)(j:gM t A c C.ms)(f:Has W (aL B m d))(g:Has W t)(hap:∀b,t.cR b->¬(aL B m d).cR b):
 aD aw 12 #[c0 B,J R (C.bd:Int),eB (C.o:Int) (C.n:Int) C.g1 C.g2 (ae A C.ms.length c)] W λe w'=>∃p,e=aB (bm #[ax af,av #[J R 16,J R p]])/\Turned W w' (aL B m d) (aL B m d):=by
 refine(Q9 B m d _ _ _ c _ _ A _ W W _ _ h.ok i h.bd h.sz h.sg h.lay h.dI (adn j g hap) ((ak.start f).dN.perm (yp _ _ _))).mono ?_;intro e w' a;have hn:vr d C.bd C.o C.n C.g1 C.g2 C.ms=.inl (16,(ky C.ms:Int)):=by grind[vr]
 rw[hn]at a;exact⟨_,a.1,a.2.fM 0⟩
def agv(B:Nat)(bs:List Int)(u:bp):Prop:=∀W,Has W u->aD aw 15 #[c0 B] W λe w'=>∃a b,e=aB (ae a bs.length b)/\cf W w' (cg a b bs)
def X8(B cV:Nat)(bs:List Int)(u:bp):Prop:=∀W,Has W u->aD aw 13 #[ax (ab ⟨cV,0,af⟩)] W λe w'=>∃a,agv B bs a/\e=aB (av #[J R 0,J R 0])/\Turned W w' u a
def akN{E e a pk s A c m W}(h:Has W (fk E e a pk s A c m)):Has W (aL E.B m s.d):=⟨h.1.2.1.2.1.1,λb hb=>h.2 b (b8 (b8 (bM hb)))⟩
def akI C(B c)A m d W t s(h:oP C d)(L:d.down=ao)(hn:vr d C.bd C.o C.n C.g1 C.g2 C.ms=.inr s)(hr:∀E:mu,E.bd=C.bd/\E.o=C.o/\E.n=C.n/\E.first=(dY d.size 0 (max C.o C.n)).2/\E.id=(lB (jk C.o C.n C.g1 C.g2 C.ms)).toNat/\E.ms=C.ms->E.g1=C.g1->E.g2=C.g2->nK E s/\(nn E s).1=0)(Q:gM t A c C.ms)(G:Has W (aL B m d))(K:Has W t)(hap:∀b,t.cR b->¬(aL B m d).cR b):
 aD aw 12 #[c0 B,J R (C.bd:Int),eB (C.o:Int) (C.n:Int) C.g1 C.g2 (ae A C.ms.length c)] W λe w'=>∃ cV u,X8 B cV (nn (C.E d) s).2.d.bytes u/\e=aB (bm #[ax (ab ⟨cV,0,af⟩),av #[J R 0,J R 0]])/\Turned W w' (aL B m d) u:=by
 refine(Q9 B m d _ _ _ c _ _ A _ W W _ _ h.ok L h.bd h.sz h.sg h.lay h.dI (adn Q K hap) ((ak.start G).dN.perm (yp _ _ _))).mono ?_;intro e w' k;rw[hn]at k;obtain⟨cV,dm,p,F,c2,v,r,w,aJ,Y,X,M,a⟩:=k;obtain⟨E,i⟩:∃E:mu,E=⟨B,cV,dm,C.bd,C.o,C.n,p,F,(dY d.size 0 (max C.o C.n)).2,(lB (jk C.o C.n C.g1 C.g2 C.ms)).toNat,C.g1,C.g2,w,C.ms⟩:=⟨_,aa⟩;rw[<-i]at a;have P:=aeP (E:=C.E d) (E':=E) (by subst i;exact⟨aa,aa,aa,aa,aa,aa,aa,aa⟩) s;obtain⟨l,O⟩:=hr E aF aF aF;have N:=No l;have y:rG v E.p E.bd E.ms:=aF;have x:gM r E.A E.c E.ms:=aF;have H:E.B=B:=aF;have I:E.cV=cV:=aF;refine⟨cV,_,λf S=>?_,M,a.fM 0⟩;have q:=Yq E v r 0 s aJ c2 m f f _ _ y x l ((ak.start S).dN.perm (yp _ _ _));rw[I]at q;refine q.mono ?_;rintro e8 bI ⟨j,t3,⟨pk,V,Z,U,_,rfl⟩,z⟩;rw[O]at j;refine⟨_,λD T=>?_,j,z.fM 0⟩;have g:=Zg _ U _ D (akN T) N.ok;rw[H,P]at g;exact g
def aqK n:oI (n+1)=oI n++[(n:Int)]:=by simp[oI,pQ]
def Um{w N n c A l}(h:Row N w A n c 3 1 (l.map (J R))):c8 w A l:=λb=>by have h1:0<(l.map (J R)).length:=aF;obtain⟨g,e,_⟩:=h.cell (cC h1);refine⟨g,0,e,λj a=>?_⟩;obtain⟨g2,bY,hc⟩:=h.cell (j:=j) (v:=J R (l[j]?.getD 0)) aF;rw[e]at bY;cases bY;rw[jt];exact hc
def av5 qi(f A)(bZ c)(o n sz bd mo)(g1 g2)old ms w(H:w.cell? ⟨0,0,af⟩=ab (J R qi))(hold:bX w f old)(me:mW w f)(hc0:old.length<=bZ)(hl:cX w A ms)(ho:∀m∈ms,qj m):
 aD aw 7 #[av (mq [ae f old.length bZ] (a7 o n g1 g2 (ae A ms.length c)) [J R sz,J R bd,J R mo])] w λe w'=>e=aB (ai az)/\ar w w':=by
 have BI:aE (∀W,ar w W->aD aw 9 #[] W λe w'=>e=aB (ai az)/\ar W w'):=hid (λW g=>auS qi W (g.cell H (λh=>h)));clear H
 obtain⟨b,hb⟩:∃b:Bool,b=az↔KN old.length o n sz bd mo ms:=by
  by_cases h:KN old.length o n sz bd mo ms;·exact⟨az,by simp[h]⟩
  .exact⟨ao,by simp[h]⟩
 have Kz:aE (∀W,ar w W->aD aw 8 #[av (mq [ae f old.length bZ] (a7 o n g1 g2 (ae A ms.length c)) [J R sz,J R bd,J R mo])] W λe w'=>e=aB (J R (if b then 1 else 0))/\ar W w'):=hid (λW g=>aum f A old.length bZ c o n sz bd mo g1 g2 ms W (hl.aG g) ho b hb);cases b with
 |false=>
  obtain⟨ol,iw⟩:=ex old.length;rw[iw]at Kz⊢;clear hold me hc0 hl ho hb iw;go_enter Tryz.func7,Tryz.ntmps7;have d:=bc w;go_upto_region 0 with fail;refine cm ?_;refine bG d (av (mq [ae f ol bZ] (a7 o n g1 g2 (ae A ms.length c)) [J R sz,J R bd,J R mo])) (λdt w1 d=>?_);refine en ?_;refine bh d 0 (mq [ae f ol bZ] (a7 o n g1 g2 (ae A ms.length c)) [J R sz,J R bd,J R mo]) ?_ (hv:=(eW _)) (hk:=by show 0+_<=ja _;rw[jt];exact b4 _) (hz:=(by rw[Uo,bW];rfl));refine bH (Kz _ d.only) d (λaW d=>?_);refine pk (ai az) ?_;refine ah ?_;refine bH (BI.out _ d.only) d (λbI d=>?_);refine bP ?_;go_wp2_with fail;go_ret;exact⟨aa,d.only⟩
 |true=>
  have r:=hb.1 aa;obtain⟨n,rfl⟩:∃z:Nat,n=(z:Int):=⟨n.toNat,by have h:=r.xN.ok.bd.1.2;omega⟩;obtain⟨sz,rfl⟩:∃z:Nat,sz=(z:Int):=⟨sz.toNat,by have h:=r.sz;omega⟩;obtain⟨bd,rfl⟩:∃z:Nat,bd=(z:Int):=⟨bd.toNat,by have h:=r.bd;omega⟩;obtain⟨mo,rfl⟩:∃z:Nat,mo=(z:Int):=⟨mo.toNat,by have h:=r.mo;omega⟩;obtain rfl:=r.fit;have uy:=r.xN.ok;have Aq:=r.xN.dI;have xn:=uy.sg Aq;have cz:=uy.lays;have s5:∀m∈ms,gW m:=λm H=>(xn.fits m H).1
  have jl:∀m∈ms,m.data.length<=140737488355328:=λm H=>by have l:=r.xN.short;unfold vy at l;have K:=of_decide_eq_true (List.all_eq_true.1 (Bool.and_eq_true_iff.1 l).1 m H);omega
  have s6:∀m∈ms,gW m/\(m.k=1->et (src m)):=λm H=>⟨s5 m H,λhk=>by have h:=(s5 m H).copy hk;exact⟨h.1,by show 0<=m.n;omega,h.2.2.1⟩⟩;have gj:=uy.ama Aq;have jx:=r.bd;have hsz:=r.sz;have vH:=r.mo;have apU:=r.old;have azZ:=r.xN.hn;have ao3:=r.xN.jx;obtain⟨eP,CE⟩:=ex (l1 old ms n);have iv:eP.length=n:=by rw[<-CE];exact atL _ _ _
  have M:=al8 r (e9 old) (e9 eP);have Iq:=λhp=>auO (old:=old) (n:=n) (sz:=sz) (cnt:=ia sz bd (max old.length n)+mo) (bd:=bd) (ms:=ms) (by rw[CE];exact M) cz hp;rw[CE]at Iq;obtain⟨N,Q⟩:=ex (max old.length n);have LJ:N<=300:=ad;have Ih:old.length<=N:=ad;have hsize:=acV (size:=sz) (bd:=bd) (N:=N) (mo:=mo) ad ad ad LJ ad;rw[Q]at M Iq;obtain⟨D,U⟩:=ex (hP sz (ia sz bd N+mo) old);have R1:=U;rw[U]at M Iq;have cS:D.down=false:=by rw[<-U];rfl
  have Sk:D.size=sz:=by rw[<-U];rfl
  obtain⟨fr,yW⟩:=ex (decide (ky ms=ms.length))
  have PU:aE (∀k:Nat,BV ms k->((k:Int)==0)=fr):=hid (λk h=>by
   have v:=atB h;rw[<-yW];by_cases l:ky ms=ms.length;·rw[decide_eq_true l,v.2 l];rfl
   .rw[decide_eq_false l];exact beq_eq_false_iff_ne.2 (λK=>l (v.1 ad)));have Xv:aE (∀W,ar w W->aD aw 27 #[ae f old.length bZ,eB (old.length:Int) (n:Int) g1 g2 (ae A ms.length c)] W λe w'=>∃y F,e=aB (ae y n F)/\cf W w' (bk y n F 5 1 (eP.map bb))):=hid (λW g=>by rw[<-CE];exact atP f A bZ c n (old.length:Int) g1 g2 old ms W (hold.aG g) (hl.aG g) ad ad ad s5 (λm H=>(xn.fits m H).2.1) cz.Y4);have GP:aE (∀W O c1,ar w W->bX W O eP->mW W O->aD aw 26 #[ae f old.length bZ,ae O n c1,ae A ms.length c] W λe w'=>∃y F t,e=aB (eB (old.length:Int) (n:Int) (e9 old) (e9 eP) (ae y ms.length F))/\cf W w' t/\gM t y F ms):=hid (λW O c1 g h1 v=>by rw[<-iv];exact Zk bZ c1 f O A c old eP ms W ad ad (hold.aG g) (me.aG g) h1 v (hl.aG g) Aq jl);have XG:aE (∀W aJ c2 I S,cX W aJ ms->c8 W I (oI ms.length)->aD aw 38 #[ae aJ ms.length c2,ae I ms.length S] W λe w'=>∃(y:Option bQ) (k F:Nat),aE (((k:Int)==0)=fr)/\e=aB (ae y k F)/\ar W w'):=hid (λW aJ c2 I S h1 v=>(awp aJ I c2 S ms W h1 gj Aq v).mono λe w' ⟨y,k,l,⟨F,K⟩,T⟩=>⟨y,k,F,hid (PU k l),K,T⟩);have yn:aE (∀W aJ c2 I S,cX W aJ ms->c8 W I (oI ms.length)->aD aw 41 #[ae aJ ms.length c2,ae I ms.length S] W λe w'=>∃(y:Option bQ) (k F:Nat),aE (((k:Int)==0)=fr)/\e=aB (ae y k F)/\ar W w'):=hid (λW aJ c2 I S h1 v=>(auT aJ I c2 S ms W h1 s6 Aq v).mono λe w' ⟨y,k,l,⟨F,K⟩,T⟩=>⟨y,k,F,hid (PU k l),K,T⟩);obtain⟨o9,Az⟩:=ex ((dY sz 0 N).2);obtain⟨ID,kN⟩:=ex (2*iZ sz bd);obtain⟨cI,dJ⟩:=ex (ia sz bd N);have hlc:qg sz bd N=#[J R (sz:Int),J R (bd:Int),J R 0,J R (N:Int),J R (o9:Int),J R (ID:Int),J R (cI:Int)]:=by rw[qg,Az,kN,dJ]
  have og:aE (∀W aJ c2,ar w W->aD aw 39 #[J R (sz:Int),J R (bd:Int),eB (old.length:Int) (n:Int) (e9 old) (e9 eP) (ae aJ ms.length c2)] W λe w'=>e=aB (bm #[av #[J R (sz:Int),J R (bd:Int),J R 0,J R (N:Int),J R (o9:Int),J R (ID:Int),J R (cI:Int)],J R 0])/\ar W w'):=hid (λW aJ c2 _=>by rw[<-hlc,<-Q];exact Ty sz bd old.length n _ _ _ ⟨ad,ad⟩ ⟨ad,ad⟩ ad ad W);have GY:aE (∀W p,ar w W->W.cell? ⟨p,0,af⟩=ab (ae f old.length bZ)->aD aw 40 #[av #[J R (sz:Int),J R (bd:Int),J R 0,J R (N:Int),J R (o9:Int),J R (ID:Int),J R (cI:Int)],J R (mo:Int),ae (ab ⟨p,0,af⟩) 1 1] W λe w'=>∃B m,e=aB (bm #[c0 B,J R 0])/\cf W w' (aL B m D)):=hid (λW p g h=>by rw[<-hlc,<-R1];exact adb sz bd N mo p f bZ old W ad hsize Ih h (hold.aG g));have kn:aE (∀W B m,Has W (aL B m D)->aD aw 21 #[c0 B] W λe w'=>e=aB (av #[J R 0,J R 0,J R 0,J R 0,J R 0])/\ar W w'):=hid (λW B m h=>by have q:=Lq B m D W h;rw[<-U]at q;exact q);have G1:aE (fr=ao->∀W t aJ c2 B m,gM t aJ c2 ms->Has W (aL B m D)->Has W t->(∀b,t.cR b->¬(aL B m D).cR b)->aD aw 12 #[c0 B,J R (bd:Int),eB (old.length:Int) (n:Int) (e9 old) (e9 eP) (ae aJ ms.length c2)] W λe w'=>∃p:Int,e=aB (bm #[ax af,av #[J R 16,J R p]])/\Turned W w' (aL B m D) (aL B m D)):=hid (λhf W t aJ c2 B m h1 v l K=>akH ⟨bd,old.length,n,e9 old,e9 eP,ms⟩ B c2 aJ m D W t M cS (by have:=atA ms;rw[hf]at yW;have T:=of_decide_eq_false yW;show ky ms<ms.length;omega) h1 v l K)
  have Y:aE (fr=az->∃P:List Int,P.length=D.bytes.length/\P.take n=eP/\∀W t aJ c2 B m,gM t aJ c2 ms->Has W (aL B m D)->Has W t->(∀b,t.cR b->¬(aL B m D).cR b)->aD aw 12 #[c0 B,J R (bd:Int),eB (old.length:Int) (n:Int) (e9 old) (e9 eP) (ae aJ ms.length c2)] W λe w'=>∃(cV:Nat) (u:bp),X8 B cV P u/\e=aB (bm #[ax (ab ⟨cV,0,af⟩),av #[J R 0,J R 0]])/\Turned W w' (aL B m D) u):=hid (λhf=>by
   rw[hf]at yW;obtain⟨s,hs1,hs2⟩:=Iq (of_decide_eq_true yW);have dH:=hs2 ((⟨bd,old.length,n,e9 old,e9 eP,ms⟩:sq).E D) ⟨aa,aa,aa,by show(dY D.size 0 (max old.length n)).2=_;rw[Sk,Q],aa,aa⟩ aa aa;refine⟨_,?_,dH.2.2,λW t aJ c2 B m h1 v l K=>akI ⟨bd,old.length,n,e9 old,e9 eP,ms⟩ B c2 aJ m D W t s M cS hs1 (λE aoz bB bY=>?_) h1 v l K⟩;·rw[(No dH.1).len dH.1.j.dev,(MS (C:=⟨bd,old.length,n,e9 old,e9 eP,ms⟩) (E:=(⟨bd,old.length,n,e9 old,e9 eP,ms⟩:sq).E D) M cS (by rw[<-U];exact cF _) hs1 ⟨aa,aa,aa,aa,aa,aa⟩).2]
   .obtain⟨fX,a2,a3,a4,a5,yv⟩:=aoz;have T:=hs2 E ⟨fX,a2,a3,by rw[a4];show(dY D.size 0 (max old.length n)).2=_;rw[Sk,Q],a5,yv⟩ bB bY;exact⟨T.1,T.2.1⟩);obtain⟨gO,j8⟩:=ex D.bytes.length;have apM:gO<=1048576:=by rw[<-j8,M.ok.len];exact M.ok.small
  have apQ:n<=gO:=by have h1:=IH (s:=sz) (N:=N) (e:=mo) (x:=2*iZ sz bd) ad;rw[<-j8,<-R1,IT,c',pN];have v:N<=sz*(ia sz bd N+mo):=h1;omega
  rw[j8]at Y;obtain⟨Gs,HN⟩:=ex (e9 old);obtain⟨uY,HO⟩:=ex (e9 eP);rw[HN,HO]at GP og G1 Y;obtain⟨ol,iw⟩:=ex old.length;rw[iw]at Kz Xv GP og GY G1 Y⊢;have yi:=hid iv;have az2:eP.length<=300:=ad;clear hold me hc0 hl ho hb r uy xn cz s5 jl s6 gj CE iv M Iq Q LJ Ih hsize U R1 cS Sk yW hlc Az kN dJ PU j8 HN HO iw apU;go_enter Tryz.func7,Tryz.ntmps7;have d:=bc w;go_upto_region 0 with fail;refine cm ?_;refine bG d (av (mq [ae f ol bZ] (a7 (ol:Int) (n:Int) g1 g2 (ae A ms.length c)) [J R (sz:Int),J R (bd:Int),J R (mo:Int)])) (λdt cc d=>?_);refine en ?_;refine bh d 0 (mq [ae f ol bZ] (a7 (ol:Int) (n:Int) g1 g2 (ae A ms.length c)) [J R (sz:Int),J R (bd:Int),J R (mo:Int)]) ?_ (hv:=(eW _)) (hk:=by show 0+_<=ja _;rw[jt];exact b4 _) (hz:=(by rw[Uo,bW];rfl));refine bH (Kz _ d.only) d (λcJ d=>?_);refine pk (ai ao) ?_;refine b' ?_;refine pl d 0 0 ?_ (hv:=np (k:=0) aa);refine ag ?_;refine bh d 0 (a7 (ol:Int) (n:Int) g1 g2 (ae A ms.length c)) ?_ (hv:=qq (a:=[ae f ol bZ])) (hk:=qs (b4 _)) (hz:=by rw[bW];rfl);refine aP (Xv _ d.only) ?_;rintro e c5 ⟨n',sP,rfl,V⟩;replace d:=d.new _ V;refine aQ ?_;refine cK ?_;refine pl d 1 0 ?_ (hv:=np (k:=0) aa);refine v3 ?_;refine pl d 1 67 ?_ (hv:=auX (k:=66) eH);refine aP (GP _ n' sP d.only (d.atR 0).F2 (λb hb=>(d.has 0).2 b hb)) ?_;rintro e dK ⟨G,eG,bz,rfl,V,jY⟩;have dy:=hid jY;clear jY;replace d:=d.new _ V;refine aQ ?_;refine bA d (a7 0 0 dS.zero dS.zero (ae af 0 0)) (λdV dz d=>?_);refine a' d 0 (av (a7 (ol:Int) (n:Int) Gs uY (ae G ms.length eG))) (λeY d=>?_) (hk:=by show 0+ja (a7 _ _ _ _ _)<=_;simp only[bW];decide) (hz:=by show _=ab (ja (a7 _ _ _ _ _));rw[bW];rfl) (h1:=(w2 aa)) (hc:=xt);refine UU ?_;refine pl d 0 66 ?_ (hv:=eH);refine dZ ?_;replace d:=d.new (bk af 0 0 3 1 []) ⟨au.refl _ _,Row.nil _ _ _ _,λb ⟨_,_,e⟩=>by cases e⟩;have cj:=d;go_wp2_with fail;go_loopw [5,33] (λec aS wr=>∃(j:Nat) (X:Option bQ) (Z:Nat),j<=ms.length/\ec=ae X j Z/\aS=J R (j:Int)/\ak w (λ_=>False) wr [bk X j Z 3 1 ((oI j).map (J R)),aj dV (a7 (ol:Int) (n:Int) Gs uY (ae G ms.length eG)) 26,bz,bk n' n sP 5 1 (eP.map bb),aj dt (mq [ae f ol bZ] (a7 (ol:Int) (n:Int) g1 g2 (ae A ms.length c)) [J R (sz:Int),J R (bd:Int),J R (mo:Int)]) 28]) (λec aS wr=>ms.length -(cO aS).toNat);case atStart=>exact⟨0,af,0,cF _,aa,aa,cj⟩
  case round=>
   clear d cj;obtain⟨j,X,Z,hj,rfl,rfl,d⟩:=hrel;by_cases hlt:j<ms.length
   .have cN:(j:Int)<(ms.length:Int):=ad;have Xb:aE ((oI (j+1)).map (J R)=(oI j).map (J R)++[J R (j:Int)]):=hid (by rw[aqK,gp];rfl);obtain⟨L,w8⟩:=ex (oI j);rw[w8]at d Xb;clear w8;go_upto_region 7 with fail;refine cm ?_;refine bu (ai az) ?_;refine ah ?_;refine v2 ?_;refine hE ?_;refine fC d #[J R (j:Int)] 3 (λU' gQ d=>?_);refine lZ (m:=1) d 1 8 (aU.cellsOf (m:=1) (d.aX 0) aa) (by intro u hu;simp only[gF,fQ,or_false]at hu;rcases hu with rfl;rfl) (λGi Hr ib d=>?_) (hby:=by omega);refine en ?_;refine pad (j:Int) 1 ((j+1:Nat):Int) ?_;refine bP ?_;go_wp2_with fail;go_roundw;case rel=>exact⟨j+1,_,_,ad,aa,aa,by rw[Xb];exact d.pick [1,2,3,4,5]⟩
    case measure=>(simp only[cO,wK];omega)
   .have cN:¬(j:Int)<(ms.length:Int):=ad;obtain rfl:j=ms.length:=ad;go_upto_region 7 with fail;refine cm ?_;refine bu (ai ao) ?_;refine an ?_;obtain⟨os,CI⟩:=ex (oI ms.length);rw[CI]at d XG yn;clear CI;refine b' ?_;refine pl d 1 66 ?_ (hv:=eH);refine ag ?_;refine aP (XG _ G eG X Z (dy.out.vZ (d.at (t:=bz) 2)) (Um (d.atR 0))) ?_;rintro e jS ⟨gR,bg,gy,ajb,rfl,g⟩;replace d:=d.aG g;refine aQ ?_;refine ag ?_;refine di ajb (ai fr) ?_;refine cK ?_;refine pl d 4 68 ?_ (hv:=jq (k:=0) bW aa);refine ag ?_;refine pl d 4 69 ?_ (hv:=jq (k:=1) bW aa);refine bh d 1 (a7 (ol:Int) (n:Int) Gs uY (ae G ms.length eG)) ?_ (hv:=(eW _)) (hk:=by show 0+_<=ja _;rw[jt];exact b4 _) (hz:=(by rw[bW];rfl));refine bH (og _ G eG d.only) d (λkh d=>?_);refine v3 ?_;refine bA d #[J R 0,J R 0,J R 0,J R 0,J R 0,J R 0,J R 0] (λeS lf d=>?_);refine a' d 0 (av #[J R (sz:Int),J R (bd:Int),J R 0,J R (N:Int),J R (o9:Int),J R (ID:Int),J R (cI:Int)]) (λmr d=>?_);refine en ?_;refine bh d 0 #[J R (sz:Int),J R (bd:Int),J R 0,J R (N:Int),J R (o9:Int),J R (ID:Int),J R (cI:Int)] ?_;refine ag ?_;refine pl d 5 70 ?_ (hv:=jq (k:=2) bW aa);refine ag ?_;refine pl d 5 0 ?_ (hv:=np (k:=0) aa);refine fC d #[ae f ol bZ] 22 (λags n1 d=>?_);refine aP (GY.out _ ags d.only (aU.cell (d.aX 0) 0 aa)) ?_;rintro e re ⟨B,m,rfl,V⟩;replace d:=d.new _ V;refine Om ?_;refine aI (ai ao) (by(go_simp;try simp)) ?_;refine v2 ?_;refine pk (ai ao) ?_;refine bP ?_;cases fr with
    |false=>
     clear Y;refine hE ?_;refine pl d 7 69 ?_ (hv:=jq (k:=1) bW aa);refine bh d 4 (a7 (ol:Int) (n:Int) Gs uY (ae G ms.length eG)) ?_ (hv:=(eW _)) (hk:=by show 0+_<=ja _;rw[jt];exact b4 _) (hz:=(by rw[bW];rfl));refine aP (G1.out aa _ bz G eG B m dy.out (d.has 0) (d.has 5) (d.ne (i:=5) (j:=0) aa aa bf)) ?_;rintro e rf ⟨p,rfl,bL⟩;replace d:=d.ek 0 bL;refine aQ ?_;refine v3 ?_;refine bA d #[J R 0,J R 0] (λJH uV d=>?_);refine ag ?_;refine a' d 0 (av #[J R 16,J R p]) (λxS d=>?_);refine hE ?_;refine aI (ai ao) (by(go_simp;try rfl)) ?_;refine pk (ai ao) ?_;refine v2 ?_;refine bh d 0 #[J R 16,J R p] ?_;refine ag ?_;refine aI (ai ao) (by(go_simp;try simp)) ?_;refine pk (ai ao) ?_;refine v3 ?_;refine pl d 5 66 ?_ (hv:=eH);refine ag ?_;refine aP (yn.out _ G eG X Z (dy.out.vZ (d.at (t:=bz) 6)) (Um (d.atR 4))) ?_;rintro e Ba ⟨Du,aq8,Af,P4,rfl,g⟩;replace d:=d.aG g;refine aQ ?_;refine ag ?_;refine di P4 (ai ao) ?_;refine ag ?_;refine pk (ai ao) ?_;refine cK ?_;refine pk (ai az) ?_;refine ah ?_;refine bH (BI.out _ d.only) d (λBb d=>?_);refine v2 ?_;refine pl d 0 0 ?_;refine pk (ai az) ?_;refine v3 ?_;refine bH (kn _ B m (d.has 1)) d (λDk d=>?_);refine ag ?_;refine pk (ai az) ?_;refine dZ ?_;go_wp2_with fail;go_ret;exact⟨aa,d.only⟩
    |true=>
     obtain⟨P,ir,ET,Q⟩:=Y aa;have dO:=hid Q;have ey:=hid (λW O c1 aJ c2 (h1:bX W O P) (v:bX W aJ eP) (l:P.length<=c1)=>avD O aJ c1 c2 P.length n P eP W h1 v aa yi l (by rw[ir];exact apQ) (by rw[ir];exact apM) ET);have lq:=hid ir;clear G1 Y Q ET ir;refine hE ?_;refine pl d 7 69 ?_ (hv:=jq (k:=1) bW aa);refine bh d 4 (a7 (ol:Int) (n:Int) Gs uY (ae G ms.length eG)) ?_ (hv:=(eW _)) (hk:=by show 0+_<=ja _;rw[jt];exact b4 _) (hz:=(by rw[bW];rfl));refine aP (dO.out _ bz G eG B m dy.out (d.has 0) (d.has 5) (d.ne (i:=5) (j:=0) aa aa bf)) ?_;rintro e Gb ⟨cV,u,aao,rfl,bL⟩;have ajv:=hid aao;clear aao;replace d:=d.ek 0 bL;refine aQ ?_;refine v3 ?_;refine bA d #[J R 0,J R 0] (λJH NJ d=>?_);refine ag ?_;refine a' d 0 (av #[J R 0,J R 0]) (λNK d=>?_);refine hE ?_;refine aI (ai az) (by(go_simp;try rfl)) ?_;refine pk (ai ao) ?_;refine v2 ?_;refine bh d 0 #[J R 0,J R 0] ?_;refine ag ?_;refine pk (ai az) ?_;refine pk (ai ao) ?_;refine v3 ?_;refine pl d 5 66 ?_ (hv:=eH);refine ag ?_;refine aP (yn.out _ G eG X Z (dy.out.vZ (d.at (t:=bz) 6)) (Um (d.atR 4))) ?_;rintro e NL ⟨Du,aq8,Af,P4,rfl,g⟩;replace d:=d.aG g;refine aQ ?_;refine ag ?_;refine di P4 (ai az) ?_;refine ag ?_;refine pk (ai ao) ?_;refine cK ?_;refine pk (ai ao) ?_;refine ah ?_;refine bH (BI.out _ d.only) d (λNM d=>?_);refine v2 ?_;refine aP (ajv _ (d.has 1)) ?_;rintro e UE ⟨ns,aac,rfl,bL⟩;have PT:=hid aac;clear aac;replace d:=d.ek 1 bL;refine aQ ?_;refine ag ?_;refine pk (ai az) ?_;refine v3 ?_;refine aP (PT _ (d.has 1)) ?_;rintro e afT ⟨uW,wX,rfl,V⟩;replace d:=d.new _ V;refine aQ ?_;refine ag ?_;refine bH (ey.out _ uW wX n' sP (d.kK 0).1 (d.atR 8).F2 (d.kK 0).2.2) d (λafU d=>?_);refine pk (ai az) ?_;refine dZ ?_;go_wp2_with fail;go_ret;exact⟨aa,d.only⟩
end
end Go.Proofs.YtcmhplknoglbkaaGreat
