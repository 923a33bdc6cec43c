/- Part 46 of the proof of TopConvertsSaid. -/
import Derived.Test.YtcmhplknoglbkaaGreat0
import Derived.Test.YtcmhplknoglbkaaGreat6
import Derived.Test.YtcmhplknoglbkaaGreat14
import Derived.Test.YtcmhplknoglbkaaGreat20
import Derived.Test.YtcmhplknoglbkaaGreat33
set_option linter.all false
set_option maxRecDepth 100000
set_option maxHeartbeats 4000000
open Go.Proofs.Tryz
open Array renaming getElem?_eq_some_iff->pf
open Bool renaming false->au,true->aB
open Go renaming Calls->aD,World->aN,cell_of_row->eC,heap_alloc_new->ff,info_parts->ra,maxLen->dO
open Go.Ending renaming returned->aA
open Go.IntKind renaming i64->R
open Go.Obj renaming cells->bf
open Go.Operand renaming tmp->bc
open Go.Proofs.Tryz renaming prog->ax,underlying82->ik
open Go.Proofs renaming intOf->cg
open Go.RowKit renaming Hid->aE
open Go.Value renaming agg->av,bool->aj,int->J,oneCell'->wh,pointer->ay,slice->ad
open List renaming drop_of_length_le->Gq,filter_append->pz,mem_append->iD,mem_of_getElem?->cM,take_add_one->fv,take_length->il
open Nat renaming le_refl->cp
open Option renaming getD_some->pD,none->af,some->ab,toList_some->xX
open Or renaming inl->bJ
namespace Go.Proofs.YtcmhplknoglbkaaGreat
namespace G
open Go.RowKit Go.MapKept
section
variable {w w':aN} {F G:Nat->Prop} {b:Nat} {n:Int} {E:List (Int×Int)} {A:Option Addr} {c:Nat}
structure Kf (w:aN) (F:Nat->Prop) (b:Nat) (n:Int) (E:List (Int×Int)) (A:Option Addr) (c:Nat):Prop where
 blk:w.heap[b]?=ab (bf #[J R n,ad A E.length c] 169 (0,0))
 nR:jy w A E
 cap:E.length<=c
 Ya:c<=dO
 xy:F b
 N9:∀blk off,A=ab ⟨blk,off,af⟩->F blk
 lt:∀blk off,A=ab ⟨blk,off,af⟩->blk<w.heap.size
def lI(w:aN)(F:Nat->Prop)(b:Nat)(n:Int)(E:List (Int×Int)):Prop:=∃A c,Kf w F b n E A c
def Kf.only(h:Kf w F b n E A c)(k:aq G w w')(a:∀i,F i->¬G i):Kf w' F b n E A c:=
 {h with
  blk:=k.heap h.blk (a _ h.xy)
  nR:=h.nR.only k (λblk off e=>a _ (h.N9 blk off e))
  lt:=λblk off e=>Nat.lt_of_lt_of_le (h.lt blk off e) k.size}
def lI.only(h:lI w F b n E)(k:aq G w w')(a:∀i,F i->¬G i):lI w' F b n E:=by obtain⟨A,c,h⟩:=h;exact⟨A,c,h.only k a⟩
def lI.aI(h:lI w F b n E)(k:ao w w'):lI w' F b n E:=h.only k (λ_ _ a=>a)
theorem lI.mono(h:lI w F b n E)(a:∀i,i<w.heap.size->F i->G i):lI w G b n E:=by obtain⟨A,c,h⟩:=h;exact⟨A,c,{h with xy:=a _ (pf.1 h.blk).1 h.xy,N9:=λblk off e=>a _ (h.lt _ _ e) (h.N9 _ _ e)}⟩
def am2:ax.underlying 174=ab (.struct (ax.fieldsOf 174)):=aw
def auC:ax.stoodInHeld 174=false:=aw
def amF(dc bo a br)w:(binOp .eql 174 (av #[J R dc,J R bo]) (av #[J R a,J R br])).run ax w=.ok (aj (dc==a&&bo==br)) w:=by have f:=Tryz.underlying3;have e:=Tryz.isAgg3;have g:=Tryz.sizeOf3;have c:=am2;have d:=auC;rw[run_eql_struct,show(10000:Nat)=9999+1 from aa,run_equalIn_agg w _ _ _ _ c d];simp only[Program.fieldsOf,underlying174];go_simp;by_cases h1:dc=a<;>by_cases b:bo=br<;>simp[h1,b]
def anA:ax.eqGuardType ax.depth 174=false:=aw
set_option maxHeartbeats 400000 in
def ath b n E F(a br)w(C:lI w F b n E):
 aD ax 245 #[ay (ab ⟨b,0,af⟩),av #[J R a,J R br]] w λe w'=>e=aA (aj (decide ((a,br)∈E)))/\ao w w':=by
 obtain⟨A,c,g⟩:=C;have hmx:=g.cap;have D:=g.Ya;unfold dO at D;have H:=amF;have hgd:=anA;have hbl:=(pf.1 g.blk).1;have t:=g.only (aq.alloc (F:=λ_=>False) w (bf #[J R a,J R br] 174)) (λ_ _ h=>h);have q:=eC _ _ 1 _ _ _ t.blk;simp at q;go_enter func245,ntmps245;go_wp2;go_loopw [5] (λi wr=>∃k:Nat,k<=E.length/\i=J R k/\(a,br)∉E.take k/\ao w wr/\wr.heap[w.heap.size]?=ab (bf #[J R a,J R br] 174 (0,0))) (λi _=>E.length -(cg i).toNat);case atStart=>grind[aq.alloc,ff]
 case round=>
  obtain⟨k,hk,rfl,hno,l,d⟩:=hrel;have j:=g.only l (λ_ _ h=>h);have q:=eC _ _ 1 _ _ _ j.blk;have b1:=eC _ _ 0 _ _ _ d;have c1:=eC _ _ 1 _ _ _ d;simp at q b1 c1;have G:=j.nR;have v:=hid d;clear g t d;have r:=hid hno;have f:=hid l;clear hno l;by_cases hlt:k<E.length
  .obtain⟨fU,off,rfl,hcell⟩:=G ae;obtain⟨h1,B⟩:=hcell k hlt;obtain⟨⟨u,x⟩,m⟩:∃p,E[k]?=ab p:=⟨E[k],aU⟩;simp only[m,pD]at h1 B;have s:=hid m;clear hcell m j;have hb0:(k:Int)<(E.length:Int):=ae;by_cases o:u=a/\x=br;·obtain⟨rfl,rfl⟩:=o;have bD:(u==u)=true:=aU;have b9:(x==x)=true:=aU;have y:aE (decide _=aB):=hid (by simpa using cM s.out);go_wp2_with fail;go_quiet (fail);go_wp2;go_ret;exact⟨by rw[y];rfl,f.out.trans (aq.drewN _ _)⟩
   .have bD:(u==a&&x==br)=false:=aG;have z:=hid o;clear o;go_wp2_with fail;go_quiet (fail);go_wp2;go_roundw
    case rel=>
     refine⟨k+1,ae,by go_num,?_,f.out.trans (aq.drewN _ _),?_⟩;·rw[fv,s];simp only[xX,iD,List.mem_singleton,not_or,Prod.mk.injEq];exact⟨r,λh=>z ⟨h.1.symm,h.2.symm⟩⟩
     .exact v
    case measure=>grind[cg]
  .obtain rfl:k=E.length:=ae;go_wp2;go_ret;exact⟨by have:=r.out;rw[il]at this;simp[this],f⟩
set_option maxHeartbeats 400000 in
def apv A c xs x w(hx:cX w A xs)(h1:xs.length<=9223372036854775807):
 aD ax 167 #[J R x,ad A xs.length c] w λe w'=>e=aA (aj (decide (x∈xs)))/\w=w':=by
 go_enter func167,ntmps167;go_wp2;go_loop [5] (λi=>∃k:Nat,k<=xs.length/\i=J R k/\aE (x∉xs.take k)) (λi=>xs.length -(cg i).toNat);case atStart=>grind[hid]
 case round=>
  obtain⟨k,hk,rfl,h⟩:=hrel;by_cases hlt:k<xs.length
  .obtain⟨b,off,rfl,hc⟩:=hx ae;have l:=hc k hlt;obtain⟨y,f⟩:∃y,xs[k]?=ab y:=⟨xs[k],aU⟩;simp only[f,pD]at l;have g:=hid f;clear hc hx f;have hb0:(k:Int)<(xs.length:Int):=ae;by_cases d:y=x;·subst d;have bD:(y==y)=true:=aU;have a:aE (decide _=aB):=hid (by simpa using cM g.out);go_wp2;go_ret;exact⟨by rw[a];rfl,aa⟩
   .have hne:(y==x)=false:=aG;have j:=hid d;clear d;go_wp2;go_round
    case rel=>
     refine⟨k+1,ae,by go_num,hid ?_⟩;have m:xs.take (k+1)=xs.take k++[y]:=by rw[fv,g];rfl
     rw[m];simp;exact⟨h,λe=>j e.symm⟩
    case measure=>grind[cg]
  .obtain rfl:k=xs.length:=ae;have a:aE (decide _=au):=hid (by have:=h.out;rw[il]at this;simpa using this);clear hx;go_wp2;go_ret;exact⟨by rw[a];rfl,aa⟩
def aby A c xs x w r(h:decide (x∈xs)=r)(hx:cX w A xs)(h1:xs.length<=9223372036854775807):
 aD ax 167 #[J R x,ad A xs.length c] w λe w'=>e=aA (aj r)/\w=w':=h▸apv A c xs x w hx h1
set_option maxHeartbeats 400000 in
def apw A c xs x w(hx:cX w A xs)(h1:xs.length<=9223372036854775807):
 aD ax 81 #[J R x,ad A xs.length c] w λe w'=>e=aA (aj (decide (x∈xs)))/\w=w':=by
 go_enter func81,ntmps81;go_wp2;go_loop [5] (λi=>∃k:Nat,k<=xs.length/\i=J R k/\aE (x∉xs.take k)) (λi=>xs.length -(cg i).toNat);case atStart=>grind[hid]
 case round=>
  obtain⟨k,hk,rfl,h⟩:=hrel;by_cases hlt:k<xs.length
  .obtain⟨b,off,rfl,hc⟩:=hx ae;have l:=hc k hlt;obtain⟨y,f⟩:∃y,xs[k]?=ab y:=⟨xs[k],aU⟩;simp only[f,pD]at l;have g:=hid f;clear hc hx f;have hb0:(k:Int)<(xs.length:Int):=ae;by_cases d:y=x;·subst d;have bD:(y==y)=true:=aU;have a:aE (decide _=aB):=hid (by simpa using cM g.out);go_wp2;go_ret;exact⟨by rw[a];rfl,aa⟩
   .have hne:(y==x)=false:=aG;have j:=hid d;clear d;go_wp2;go_round
    case rel=>
     refine⟨k+1,ae,by go_num,hid ?_⟩;have m:xs.take (k+1)=xs.take k++[y]:=by rw[fv,g];rfl
     rw[m];simp;exact⟨h,λe=>j e.symm⟩
    case measure=>grind[cg]
  .obtain rfl:k=xs.length:=ae;have a:aE (decide _=au):=hid (by have:=h.out;rw[il]at this;simpa using this);clear hx;go_wp2;go_ret;exact⟨by rw[a];rfl,aa⟩
def LW A c xs x w r(h:decide (x∈xs)=r)(hx:cX w A xs)(h1:xs.length<=9223372036854775807):
 aD ax 81 #[J R x,ad A xs.length c] w λe w'=>e=aA (aj r)/\w=w':=h▸apw A c xs x w hx h1
def acY{F w w'}{base e size:Nat}{v m xs}(h:w.ownsRow base e size v m xs)(k:aq F w w')(a:∀i,base<=i->¬F i):w'.ownsRow base e size v m xs:=by
 refine⟨h.1,?_⟩;rcases h.2 with h2|⟨g,cap,cur,rfl,hb,hh,r⟩;·grind
 .exact .inr ⟨g,_,_,aa,hb,k.heap hh (a _ hb),r⟩
def adL b n E F(a br)w r(h:decide ((a,br)∈E)=r)(c:lI w F b n E):
 aD ax 245 #[ay (ab ⟨b,0,af⟩),av #[J R a,J R br]] w λe w'=>e=aA (aj r)/\ao w w':=h▸ath b n E F a br w c
def atj(b N:Nat)v E F w(s:lI w F b N E)(S:N<=1048576):
 aD ax 168 #[ay (ab ⟨b,0,af⟩),J R v] w λe w'=>∃r,e=aA r/\pC w w' r ((du N).filter (λx=>decide ((x,v)∈E)))/\ao w w':=by
 obtain⟨G,z,hz1,hz2,hz3⟩:=ra z7;have j:=hid (And.intro z (And.intro hz1 (And.intro hz2 hz3)));clear z hz1 hz2 hz3;have B:=hid s;clear s;go_enter func168,ntmps168;go_wp2
 go_loopw [5,6] (λI i wr=>∃k:Nat,k<=N/\i=J R k/\wr.ownsRow w.heap.size 3 1 I (((du N).take k).filter (λx=>decide ((x,v)∈E))).length ((((du N).take k).filter (λx=>decide ((x,v)∈E))).map (J R))/\
  (((du N).take k).filter (λx=>decide ((x,v)∈E))).length<=k/\aq (λi=>w.heap.size<=i) w wr) (λ_ i _=>N -(cg i).toNat);case atStart=>exact⟨0,ae,aa,⟨aU,bJ ⟨aa,aU⟩⟩,aU,aq.refl _ _⟩
 case round=>
  obtain⟨k,hk,rfl,hrow,hlen,a⟩:=hrel;have m:=B.out.aI (b5.aI a)
  have U:wr.cell? ⟨b,0,af⟩=ab (J R N):=by obtain⟨K,P,g⟩:=m;exact eC _ _ 0 _ _ _ g.blk
  have o:=hid m;have T:=a.size;clear m;by_cases hlt:k<N
  .have A:=M8 N k hlt;have hb0:(k:Int)<(N:Int):=ae;obtain⟨r,hr⟩:∃r,decide (((k:Int),v)∈E)=r:=⟨_,aa⟩;have d:=hid hr;have q:=hid A;have l:=hid hrow;have p:=hid a;have M:=hid hlen;clear A hrow a hlen hr;generalize t:((du N).take k).filter (λx=>decide ((x,v)∈E))=L at*;cases r
   .go_wp2_with (go_at_call 245;refine(adL b N E _ k v wr _ d o).mono ?_;rintro e n ⟨rfl,hg2⟩);have c:=hid hg2;clear hg2;go_roundw
    case rel=>
     have y:((du N).take (k+1)).filter (λx=>decide ((x,v)∈E))=L:=by rw[q,pz,t];simpa using d.out
     exact⟨k+1,ae,by go_num,y▸nn l.out c.out (λ_ _ h=>h),aG,p.out.trans c.out (λ_ _ h=>h.elim)⟩
    case measure=>grind[cg]
   .go_wp2_with (first
     |(go_at_call 245;refine(adL b N E _ k v wr _ d o).mono ?_;rintro e n ⟨rfl,hg2⟩;have c:=hid hg2;have hs2:=hg2.size;clear hg2)
     |(at_builtin;go_loud (refine wpList_append_own _ aa (bc 20) (bc 22) 82 aa w.heap.size 3 G _ 1 8 ik j.out.1 j.out.2.1 j.out.2.2.1 j.out.2.2.2 aa ae _ L.length (L.map (J R)) aa (nn l.out (ao.trans c.out (aq.alloc (F:=λ_=>False) _ _)) (λ_ _ h=>h)) _ 1 1 [J R k] aa aa (ES _ _ _) (by simp[wh]) (by grind[dO]) aG (by simp;omega) ?_;intro V H hown2 hgrow2 _)))
    have hk2:aq (λi=>w.heap.size<=i) (n.alloc (bf _ 3)) H:=aq.of_grownBy hgrow2 (λi e=>bJ (by
     rcases l.out.2 with⟨rfl,_⟩|⟨Q,cap,cur,rfl,D,_⟩;·replace e:Value.ownBlock (ad _ 0 0)=ab i:=e;cases e
     .cases e;exact D));have u:=(p.out.trans c (λ_ _ h=>h.elim)).trans ((aq.alloc (F:=λi=>w.heap.size<=i) n _).trans hk2 (λ_ _ h=>h)) (λ_ _ h=>h);have f:=hid (And.intro hown2 u);clear hown2 hgrow2 hk2 u;go_wp2;go_roundw
    case rel=>
     obtain⟨O,C⟩:=f.out
     have y:((du N).take (k+1)).filter (λx=>decide ((x,v)∈E))=L++[(k:Int)]:=by rw[q,pz,t];simpa using d.out
     refine⟨k+1,ae,by go_num,?_,?_,C⟩;·grind
     .grind
    case measure=>grind[cg]
  .obtain rfl:k=N:=ae;have f:=hid (And.intro hrow a);clear hrow a hlen;go_wp2;go_ret;have h1:=f.1;rw[List.take_of_length_le (by simp[du])]at h1;exact⟨_,aa,h1,b5.aI f.2⟩
def atk(b N:Nat)v E F w(a:lI w F b N E)(d:N<=1048576)xs(hx:xs=(du N).filter (λx=>decide ((x,v)∈E))):
 aD ax 168 #[ay (ab ⟨b,0,af⟩),J R v] w λe w'=>∃A c,e=aA (ad A xs.length c)/\cX w' A xs/\ao w w':=by
 subst hx;refine(atj b N v E F w a d).mono ?_;rintro e w' ⟨r,rfl,g,f⟩;obtain⟨A,c,rfl,hi,_⟩:=g.form;exact⟨A,c,aa,hi,f⟩
def apE:(ax.info? 174).map (λi=>(i.zero,i.size,i.bytes))=ab (ab (av #[J R 0,J R 0]),2,16):=aw
theorem lI.lW{w b base n v E}(hb:w.heap[b]?=ab (bf #[J R n,v] 169 (0,0)))(hown:w.ownsRow base 174 2 v E.length (im E))F(a:F b)(f:∀i,base<=i->F i):
 lI w F b n E:=by
 rcases hown.2 with⟨rfl,c⟩|⟨g,cap,cur,rfl,j,hh,d,hcm,_⟩;·obtain rfl:=List.eq_nil_of_length_eq_zero c;exact⟨_,0,hb,jy.nil,cp _,ae,a,(λ_ _ h=>aG),(λ_ _ h=>aG)⟩
 .exact⟨_,_,hb,jy.lW hown,d,hcm,a,(λblk off e=>aG),(λblk off e=>aG)⟩
set_option maxHeartbeats 4000000 in
def atP(b N:Nat)E F A c l w(dU:lI w F b N E)(hl:cX w A l)(hlen:l.length<=9223372036854775807)(eV:E.length<=1048576):
 aD ax 80 #[ay (ab ⟨b,0,af⟩),ad A l.length c] w λe w'=>∃iE,e=aA (ay (ab ⟨iE,0,af⟩))/\lI w' (λi=>w.heap.size<=i/\i<w'.heap.size) iE N (cut E l)/\ao w w':=by
 obtain⟨az,aC,g⟩:=dU;have Hh:=g.cap;have aob:=g.Ya;unfold dO at aob;have hbl:=(pf.1 g.blk).1;have kn:=eC _ _ 0 _ _ _ g.blk;simp at kn;have Q:=hid (And.intro g hl);clear g hl;go_enter func80,ntmps80;go_wp2
 go_loopw [6] (λi wr=>∃(k:Nat) (s:Value),i=J R k/\k<=E.length/\wr.heap[w.heap.size]?=ab (bf #[J R N,s] 169 (0,0))/\
  wr.ownsRow (w.heap.size+1) 174 2 s (cut (E.take k) l).length (im (cut (E.take k) l))/\aq (λi=>w.heap.size<=i) w wr) (λi _=>E.length -(cg i).toNat);case atStart=>exact⟨0,_,aa,Nat.zero_le _,ff w _,⟨aT,bJ ⟨aa,aT⟩⟩,aq.alloc _ _⟩
 case round=>
  obtain⟨k,s,rfl,hk,U,hrow,H⟩:=hrel;have O:=Q.1.only (b5.aI H) (λ_ _ h=>h);have HA:=Q.2.aI (b5.aI H);have X:=eC _ _ 1 _ _ _ O.blk;simp at X;have D7:=H.size;have e6:=O.nR;have Lf:=(pf.1 U).1;have fD:=QR (E.take k) l;have jK:(E.take k).length<=k:=aG;have S:=hid (And.intro O HA);have d:=hid (And.intro U (And.intro hrow H));clear O HA U hrow H;by_cases hlt:k<E.length
  .obtain⟨fU,off,rfl,hcell⟩:=e6 ae;obtain⟨h1,z⟩:=hcell k hlt;obtain⟨⟨u,x⟩,W⟩:∃p,E[k]?=ab p:=⟨E[k],aU⟩;simp only[W,pD]at h1 z;have HV:=alx E l W;have xO:=hid HV;have hb0:(k:Int)<(E.length:Int):=ae;clear hcell W HV;generalize anJ:cut (E.take k) l=f at*;clear anJ;obtain⟨Y,hr1⟩:∃r,decide (u∈l)=r:=⟨_,aa⟩;obtain⟨Z,hr2⟩:∃r,decide (x∈l)=r:=⟨_,aa⟩;have y:=hid (And.intro hr1 hr2);clear hr1 hr2;have I:=hid (aby A c l u wr Y y.1 S.2 hlen);have P:=hid (aby A c l x wr Z y.2 S.2 hlen);by_cases hr:Y=au/\Z=au
   .obtain⟨rfl,rfl⟩:=hr;have M:aE (cut _ l=f++[(u,x)]):=hid (by rw[xO,if_pos ⟨by simpa using y.out.1,by simpa using y.out.2⟩]);obtain⟨i0,gQ,hz0,hz1,hz2⟩:=ra apE;have L:=hid (And.intro gQ (And.intro hz0 (And.intro hz1 hz2)));clear gQ hz0 hz1 hz2;have qL:=eC _ _ 1 _ _ _ d.1;simp at qL;have ayj:=hbl;have ayi:=S.1.lt fU _ aa
    have ayh:=by have:=Q.1.lt fU _ aa;exact this
    have D:aE (∀w',aq (λi=>w.heap.size+1<=i) wr w'->w'.cell? ⟨w.heap.size,1,af⟩=ab s/\w'.cell? ⟨b,1,af⟩=ab _/\w'.cell? ⟨fU,off+k*2,af⟩=ab (J R u)/\w'.cell? ⟨fU,off+k*2+1,af⟩=ab (J R x)):=
     hid λw' hw'=>⟨hw'.cell qL aU,hw'.cell X aG,hw'.cell h1 aG,hw'.cell z aG⟩
    have jw:aE (∀w',aq (λi=>w.heap.size+1<=i) wr w'->w'.heap[w.heap.size]?=ab _/\w'.cell? ⟨w.heap.size,1,af⟩=ab s/\w'.frozen? ⟨w.heap.size,1,af⟩=au):=hid λw' hw'=>by have:=hw'.heap d.1 ae;exact⟨this,by simpa using eC _ _ 1 _ _ _ this,by grind[World.frozen?]⟩
    clear qL;have c1:=I.out;go_wp2_with (go_at_call 167;first|((with_reducible refine I.out.mono ?_);rintro e w' ⟨rfl,rfl⟩)|((with_reducible refine P.out.mono ?_);rintro e w' ⟨rfl,rfl⟩));clear c1;clear kn X h1 z;refine afj aw 16 (λw'=>w'.cell? _=ab s/\w'.cell? _=ab _/\w'.cell? _=ab _/\w'.cell? _=ab _) (D _ (aq.drew _)) (λhHeld=>?_);refine nr (i:=0) (v:=?_) aa aw aw aw aw (λ_ _ _ h=>h) (bJ ⟨aT,?_⟩) hHeld ?_;rotate_left;focus (intro j hz;obtain⟨m,n,o,q⟩:=hz;go_simp;try with_reducible rfl)
    refine nr (i:=1) (v:=?_) aa aw aw aw aw (λ_ _ _ h=>h) (bJ ⟨aT,?_⟩) hHeld ?_;rotate_left;focus (intro j hz;obtain⟨m,n,o,q⟩:=hz;go_simp;try with_reducible rfl)
    refine nr (i:=2) (v:=?_) aa aw aw aw aw (λ_ _ _ h=>h) (bJ ⟨aT,?_⟩) hHeld ?_;rotate_left;focus (intro j hz;obtain⟨m,n,o,q⟩:=hz;go_simp;try with_reducible rfl)
    refine nr (i:=3) (v:=?_) aa aw aw aw aw (λ_ _ _ h=>h) (bJ ⟨aT,?_⟩) hHeld ?_;rotate_left;focus (intro j hz;obtain⟨m,n,o,q⟩:=hz;go_simp;try with_reducible rfl)
    refine nr (i:=4) (v:=?_) aa aw aw aw aw (λ_ _ _ h=>h) (bJ ⟨aT,?_⟩) hHeld ?_;rotate_left;focus (intro j hz;obtain⟨m,n,o,q⟩:=hz;go_simp;try with_reducible rfl)
    refine nr (i:=5) (v:=?_) aa aw aw aw aw (λ_ _ _ h=>h) (bJ ⟨aT,?_⟩) hHeld ?_;rotate_left;focus (intro j hz;obtain⟨m,n,o,q⟩:=hz;go_simp;try with_reducible rfl)
    refine nr (i:=6) (v:=?_) aa aw aw aw aw (λ_ _ _ h=>h) (bJ ⟨aT,?_⟩) hHeld ?_;rotate_left;focus (intro j hz;obtain⟨m,n,o,q⟩:=hz;go_simp;try with_reducible rfl)
    refine nr (i:=7) (v:=?_) aa aw aw aw aw (λ_ _ _ h=>h) (bJ ⟨aT,?_⟩) hHeld ?_;rotate_left;focus (intro j hz;obtain⟨m,n,o,q⟩:=hz;go_simp;try with_reducible rfl)
    refine nr (i:=8) (v:=?_) aa aw aw aw aw (λ_ _ _ h=>h) (bJ ⟨aT,?_⟩) hHeld ?_;rotate_left;focus (intro j hz;obtain⟨m,n,o,q⟩:=hz;go_simp;try with_reducible rfl)
    refine nr (i:=9) (v:=?_) aa aw aw aw aw (λ_ _ _ h=>h) (bJ ⟨aT,?_⟩) hHeld ?_;rotate_left;focus (intro j hz;obtain⟨m,n,o,q⟩:=hz;go_simp;try with_reducible rfl)
    refine nr (i:=10) (v:=?_) aa aw aw aw aw (λ_ _ _ h=>h) (bJ ⟨aT,?_⟩) hHeld ?_;rotate_left;focus (intro j hz;obtain⟨m,n,o,q⟩:=hz;go_simp;try with_reducible rfl)
    refine nr (i:=11) (v:=?_) aa aw aw aw aw (λ_ _ _ h=>h) (bJ ⟨aT,?_⟩) hHeld ?_;rotate_left;focus (intro j hz;obtain⟨m,n,o,q⟩:=hz;go_simp;try with_reducible rfl)
    clear hHeld;refine xp (rs:=[12]) aw aU ?_;refine ky.cons aa aT (λK a=>?_) ?_;rotate_left;exact ky.nil;go_simp;refine a _ _ (λ_=>D _ (aq.trans (aq.alloc _ _) (aq.drew _) (λ_ _ h=>h))) ?_;clear a K;refine xp (rs:=[13]) aw aU ?_;refine ky.cons aa aT (λK a=>?_) ?_;rotate_left;exact ky.nil;refine avD _ (bc 50) (bc 58) 98 aT (w.heap.size+1) 174 i0 _ 2 16 underlying98 L.out.1 L.out.2.1 L.out.2.2.1 L.out.2.2.2 aa ae s f.length (im f) aa (acY d.out.2.1 (ao.trans (aq.alloc _ _) (aq.drew _)) (λ_ _ h=>h)) _ 1 1 (im [(u,x)]) aa ⟨rfl,λ_=>⟨_,aa,World.news_of_block (cs:=_) (t:=174) (fr:=(0,0)) (ff _ _)⟩⟩ (arq _) ae (by unfold dO;omega) ae (by simp;omega) ?_;intro g2 G B hown2 hgrow2 an8 RY
    have C:aE (aq (λi=>w.heap.size+1<=i) wr B):=hid ((aq.trans (aq.alloc _ _) (aq.drew _) (λ_ _ h=>h)).trans (aq.of_grownBy (F:=λi=>w.heap.size+1<=i) hgrow2 (λi e=>bJ (by
     rcases d.out.2.1.2 with⟨rfl,_⟩|⟨rL,cap,cur,rfl,V,_⟩;·replace e:=e;cases e
     .cases e;exact V))) (λ_ _ h=>h));have aiy:=hid hown2
    have hg2:w.heap.size+1<=g2:=by
     rcases hown2.2 with⟨hh,_⟩|⟨rL,cap,cur,hh,V,_⟩;·omega
     .cases hh;exact V
    clear hown2 hgrow2 an8;refine a _ _ (λ_=>D _ C) ?_;clear a K;refine xp (rs:=[14]) aw aU ?_;refine ky.cons aa aT (λK a=>?_) ?_;rotate_left;exact ky.nil;go_simp;refine a _ _ (λ_=>D _ C) ?_;clear a K;refine xp (rs:=[15]) aw aU ?_;refine ky.cons aa aT (λK a=>?_) ?_;rotate_left;exact ky.nil;go_simp;refine a _ _ (λ_=>D _ C) ?_;clear a K;refine xp (rs:=[16]) aw aU ?_;refine ky.cons aa aT (λK a=>?_) ?_;rotate_left;exact ky.nil;obtain⟨lB,Ad,n4⟩:=jw.out B C.out;have ru:=hid lB;clear lB;go_simp;refine a _ _ (λh=>absurd aa h) ?_;clear a K;refine afc aw ?_ _;have T:aE ((B.setCell ⟨w.heap.size,1,af⟩ (ad (ab ⟨g2,0,af⟩) (f.length+1) G)).heap[w.heap.size]?=ab (bf #[J R N,ad (ab ⟨g2,0,af⟩) (f.length+1) G] 169 (0,0))/\(B.setCell ⟨w.heap.size,1,af⟩ (ad (ab ⟨g2,0,af⟩) (f.length+1) G)).ownsRow (w.heap.size+1) 174 2 (ad (ab ⟨g2,0,af⟩) (f.length+1) G) (f.length+1) (im f++im [(u,x)])/\aq (λi=>w.heap.size<=i) wr (B.setCell ⟨w.heap.size,1,af⟩ (ad (ab ⟨g2,0,af⟩) (f.length+1) G))):=hid ⟨by simp[World.setCell,Array.getElem?_modify,ru.out],acY aiy.out (aq.setCell (F:=λi=>i=w.heap.size) B (p:=⟨w.heap.size,1,af⟩) aa _) (λi hi=>ae),(C.out.mono (λi _ hi=>ae)).trans (aq.setCell (F:=λi=>w.heap.size<=i) _ (p:=⟨w.heap.size,1,af⟩) (cp _) _) (λ_ _ h=>h)⟩;clear Ad n4;go_wp2;go_roundw
    case rel=>
     refine⟨k+1,_,by go_num,ae,T.1,?_,d.2.2.trans T.2.2 (λ_ _ h=>h)⟩;rw[M];simpa [im]using T.out.2.1
    case measure=>grind[cg]
   .have M:aE (cut _ l=f):=hid (by rw[xO,if_neg,List.append_nil];rintro⟨gp,a2⟩;exact hr ⟨by rw[<-y.1];simpa using gp,by rw[<-y.2];simpa using a2⟩);have JW:=hid hr;clear hr;cases Y
    .cases Z;·exact absurd ⟨aa,aa⟩ JW
     .go_wp2_with (go_at_call 167;first|((with_reducible refine I.out.mono ?_);rintro e w' ⟨rfl,rfl⟩)|((with_reducible refine P.out.mono ?_);rintro e w' ⟨rfl,rfl⟩));go_roundw;case rel=>exact⟨k+1,s,by go_num,ae,d.1,by rw[M];exact d.2.1,d.2.2⟩
      case measure=>grind[cg]
    .go_wp2_with (go_at_call 167;first|((with_reducible refine I.out.mono ?_);rintro e w' ⟨rfl,rfl⟩)|((with_reducible refine P.out.mono ?_);rintro e w' ⟨rfl,rfl⟩));go_roundw;case rel=>exact⟨k+1,s,by go_num,ae,d.1,by rw[M];exact d.2.1,d.2.2⟩
     case measure=>grind[cg]
  .obtain rfl:k=E.length:=ae;clear e6;go_wp2;go_ret;obtain⟨h1,z,h3⟩:=d.out;rw[il]at z;exact⟨_,aa,(lI.lW h1 z (λi=>w.heap.size<=i) (cp _) (λi hi=>ae)).mono (λi hi ub=>⟨ub,hi⟩),b5.aI h3⟩
def ani (b N:Nat) E F v A c o w (s:lI w F b N E) (D:N<=1048576) (y:cX w A o) (z:o.length<=9223372036854775807)
 r (hr:((du N).filter (λx=>decide ((x,v)∈E))).all (λu=>decide (u∈o))=r):
 aD ax 82 #[ay (ab ⟨b,0,af⟩),J R v,ad A o.length c] w λe w'=>e=aA (aj r)/\ao w w':=by
 have f:=hid (And.intro s (And.intro y hr));clear s y hr;go_enter func82,ntmps82;have C:((du N).filter (λx=>decide ((x,v)∈E))).length<=N:=Nat.le_trans (List.length_filter_le _ _) (by simp[du]);obtain⟨L,h⟩:=ex ((du N).filter (λx=>decide ((x,v)∈E)));go_wp2_with fail;go_at_call 168;refine(atk b N v E F w f.1 D L h.symm).mono ?_;rintro e w1 ⟨H,c1,rfl,t,hg1⟩;rw[h]at C;have n:=hid (h▸f.2.2);have a:=hid (And.intro t hg1);clear t hg1 h;go_wp2_with fail;go_loopw [8] (λi wr=>∃k:Nat,k<=L.length/\i=J R k/\aE ((L.take k).all (λu=>decide (u∈o))=aB)/\ao w1 wr) (λi _=>L.length -(cg i).toNat);case atStart=>grind[hid,aq.refl]
 case round=>
  obtain⟨k,hk,rfl,hall,l⟩:=hrel;have d:=hid l;have m:=a.1.aI l;clear l;by_cases hlt:k<L.length
  .obtain⟨fU,off,rfl,hcell⟩:=m ae;have h1:=hcell k hlt;obtain⟨x,hx⟩:∃x,L[k]?=ab x:=⟨_,List.getElem?_eq_getElem hlt⟩;simp only[hx,pD]at h1;have p:=hid hx;have hb0:(k:Int)<(L.length:Int):=ae;clear hcell m hx;obtain⟨q,B⟩:∃q,decide (x∈o)=q:=⟨_,aa⟩;have g:=hid B;clear B;cases q
   .have j:aE (r=au):=hid (by rw[<-n,List.all_eq_false];exact⟨x,cM p,by rw[g];simp⟩);go_wp2_with (go_at_call 81;refine(LW A c o x wr _ g ((f.2.1.aI a.2).aI d) z).mono ?_;rintro e G ⟨rfl,rfl⟩);go_ret;exact⟨by rw[j];rfl,ao.trans a.2 d⟩
   .go_wp2_with (go_at_call 81;refine(LW A c o x wr _ g ((f.2.1.aI a.2).aI d) z).mono ?_;rintro e G ⟨rfl,rfl⟩);go_roundw
    case rel=>
     refine⟨k+1,ae,by go_num,hid ?_,d⟩;rw[fv,p];simp only[xX,List.all_append,hall.out,List.all_cons,g.out,List.all_nil,Bool.and_self]
    case measure=>grind[cg]
  .obtain rfl:k=L.length:=ae
   have j:aE (r=aB):=hid (by rw[<-n];have:=hall.out;rwa [il]at this);clear m;go_wp2;go_ret;exact⟨by rw[j];rfl,ao.trans a.2 d⟩
def vE(s out:List Int)(x:Int):Bool:=!decide (x∈s)&&!decide (x∈out)
def Q'(E:List (Int×Int))(N:Nat)(s out:List Int)(x:Int):Bool:=((du N).filter (λu=>decide ((u,x)∈cut E s))).all (λu=>decide (u∈out))
def xh(E:List (Int×Int))(N:Nat)(s out:List Int)(x:Int):Bool:=vE s out x&&Q' E N s out x
def Tz{E}{N:Nat}{s out x}(a:Valid N E)(hx:0<=x/\x<(N:Int)):xh E N s out x=aB↔va E N s out x:=by grind[xh,vE,Q',va,sV,qK]
def am9{E}{N:Nat}{s out x}(b:Valid N E)(h:(du N).find? (xh E N s out)=ab x):J5 E N s out x:=by
 obtain⟨h1,j,iL,d,g⟩:=List.find?_eq_some_iff_append.1 h;have f:x∈du N:=aG;refine⟨(Tz b (qK.1 f)).1 h1,λu a=>?_⟩;have c:=qK.2 a.1;have i:=(Tz b a.1).2 a;rw[d]at c;rcases iD.1 c with e|e;·grind
 .grind[CG,List.pairwise_cons]
def ana{E}{N:Nat}{s out}(a:Valid N E)(h:(du N).find? (xh E N s out)=af)v:¬va E N s out v:=λhv=>by have:=List.find?_eq_none.1 h v (qK.2 hv.1);exact this ((Tz a hv.1).2 hv)
def ajJ{N s out}:(du N).any (vE s out)=!decide (kp N s out=[]):=by
 by_cases h:kp N s out=[];·simp only[h,decide_true,Bool.not_true,List.any_eq_false];intro x hx;have:x∉kp N s out:=aG;grind[Cf,qK,vE]
 .simp only[h,decide_false,Bool.not_false,List.any_eq_true];obtain⟨x,hx⟩:=List.exists_mem_of_ne_nil _ h;have a:=Cf.1 hx;exact⟨x,qK.2 a.1,by grind[vE]⟩
set_option maxHeartbeats 2000000 in
def atm (b N:Nat) E F A c s w (dU:lI w F b N E) (hs:cX w A s) (e6:s.length<=9223372036854775807) (eV:E.length<=1048576) (fl:N<=1048576) (dy:Valid N E)
 o (ho:mx E N s o) r (hr:decide (kp N s o=[])=r):
 aD ax 30 #[ay (ab ⟨b,0,af⟩),ad A s.length c] w λe w'=>∃K aC,e=aA (.tuple #[ad K (Cn r o).length aC,aj r])/\cX w' K (Cn r o)/\ao w w':=by
 have l:=hid (And.intro dU (And.intro hs (And.intro dy (And.intro ho hr))));obtain⟨i0,gQ,hz0,hz1,hz2⟩:=ra z7;have G:=hid (And.intro gQ (And.intro hz0 (And.intro hz1 hz2)));clear dU hs dy ho hr gQ hz0 hz1 hz2;go_enter func30,ntmps30;go_wp2_with fail;go_at_call 80;refine(atP b N E F A c s w l.out.1 l.out.2.1 e6 eV).mono ?_;rintro e w1 ⟨Z,rfl,Zy,hg1⟩;have B:=hid (And.intro Zy hg1);have hs1:=hg1.size;clear Zy hg1;go_wp2_with fail;go_loopw [7] (λU wr=>∃(out:List Int),kl E N s out/\wr.ownsRow w1.heap.size 3 1 U out.length (out.map (J R))/\aq (λi=>w1.heap.size<=i) w1 wr) (λU _=>N -lenOf U);case atStart=>exact⟨[],.nil,⟨aU,bJ ⟨aa,aU⟩⟩,aq.refl _ _⟩
 case round=>
  obtain⟨out,P,hrow,n⟩:=hrel;have hN:=P.length;have D7:=n.size;obtain⟨z,H,rfl,Hs⟩:=yK hrow;have Q:=B.out.1.aI (b5.aI n)
  have kn:wr.cell? ⟨Z,0,af⟩=ab (J R N):=by obtain⟨K,aC,g⟩:=Q;exact eC _ _ 0 _ _ _ g.blk
  have d:=hid (And.intro P (And.intro hrow (And.intro Hs (And.intro n Q))));clear P hrow Hs n Q;go_wp2_with fail;obtain⟨y,rfl⟩:∃y:aN,y=wr:=⟨_,aa⟩;go_loopw [8,9,10] (λMl bU aW wr=>∃(k:Nat) (nx i:Int),k<=N/\aW=J R i/\aE (i=(k:Int) -1)/\Ml=J R nx/\aE (nx=(((du N).drop k).find? (xh E N s out)).getD (-1))/\bU=aj (((du N).drop k).any (vE s out))/\ao y wr) (λ_ _ i _=>(cg i+1).toNat);case atStart=>exact⟨N,-1,_,cp _,aa,hid aa,aa,hid (by rw[Gq (by simp[du])];rfl),by rw[Gq (by simp[du])];rfl,aq.refl _ _⟩
  case round=>
   obtain⟨k,nx,i,hk,rfl,hi,rfl,u,rfl,n⟩:=hrel;have a:=hid n;clear n;cases k with
   |zero=>
    obtain rfl:i=-1:=by have:=hi.out;omega
    have I:=u.out;rw[List.drop_zero,ajJ]at*;cases hf:(du N).find? (xh E N s out)with
    |none=>
     rw[hf]at I;obtain rfl:nx=-1:=I;have hJ:mx E N s out:=⟨d.out.1,ana l.out.2.2.1 hf⟩;obtain rfl:=hJ.unique l.out.2.2.2.1;rw[l.out.2.2.2.2];clear hJ hf u hi kn;cases r;·go_wp2;go_ret2;exact⟨_,0,aa,cX.nil,ao.trans B.out.2 (ao.trans (b5.aI d.out.2.2.2.1) a.out)⟩
     .go_wp2;go_ret2;exact⟨z,H,aa,d.out.2.2.1.aI a.out,ao.trans B.out.2 (ao.trans (b5.aI d.out.2.2.2.1) a.out)⟩
    |some x=>
     rw[hf]at I;obtain rfl:nx=x:=I;have t:=am9 l.out.2.2.1 hf;have hx0:=t.1.1
     have HP:decide (kp N s out=[])=false:=by have:nx∈kp N s out:=Cf.2 ⟨hx0,t.1.2.1,t.1.2.2.1⟩;simp only[decide_eq_false_iff_not];intro he;rw[he]at this;cases this
     rw[HP];have hk2:=(kl.snoc d.out.1 t);have hl2:=hk2.length;rw[List.length_append,List.length_singleton]at hl2;have F5:=hid hk2;have hd:decide (nx<0)=false:=by simp;omega
     clear hf t HP hk2 u hi kn;go_wp2_with (at_builtin;go_loud (refine wpList_append_own_at _ aa (bc 41) (bc 43) 82 aa w1.heap.size 3 i0 _ 1 8 ik G.out.1 G.out.2.1 G.out.2.2.1 G.out.2.2.2 aa ae _ out.length _ aa (nn d.out.2.1 (ao.trans a.out (aq.alloc (F:=λ_=>False) _ _)) (λ_ _ h=>h)) _ 1 1 _ aa aa (ES _ _ _) (by simp[wh]) (by unfold dO;omega) ae (by have:=a.out.size;simp;omega) ?_;intro v2 V hown2 hgrow2 _ _));have fo:aq (λi=>w1.heap.size<=i) (wr.alloc (bf #[J R nx] 3)) V:=aq.of_grownBy hgrow2 (λi e=>bJ (d.out.2.1.lt i e).1);have kH:aq (λi=>w1.heap.size<=i) w1 V:=((d.out.2.2.2.1.trans a.out (λ_ _ h=>h.elim)).trans (aq.alloc (F:=λi=>w1.heap.size<=i) _ _) (λ_ _ h=>h)).trans fo (λ_ _ h=>h);have hown:V.ownsRow w1.heap.size 3 1 v2 (out.length+1) ((out++[nx]).map (J R)):=by simpa using hown2
     obtain⟨aK,c2,b9,_⟩:=yK hown;obtain rfl:v2=ad aK (out.length+1) c2:=by rw[b9];simp
     have Y:=hid (And.intro hown kH);clear hown2 hgrow2 fo kH hown b9;go_wp2;go_roundw;case rel=>exact⟨_,F5.out,by simpa using Y.out.1,Y.out.2⟩
     case measure=>simp only[lenOf];omega
   |succ m=>
    obtain rfl:i=(m:Int):=by have:=hi.out;omega
    have hm:m<N:=ae;have hdr:=ave hm;have hb0:(0:Int)<=(m:Int):=ae;obtain⟨f,hr1⟩:∃q:Bool,decide ((m:Int)∈s)=q:=⟨_,aa⟩;obtain⟨j,hr2⟩:∃q:Bool,decide ((m:Int)∈out)=q:=⟨_,aa⟩;obtain⟨v,hr3⟩:∃q:Bool,Q' E N s out (m:Int)=q:=⟨_,aa⟩;have T:vE s out (m:Int)=(!f&&!j):=by unfold vE;rw[hr1,hr2]
    have oB:xh E N s out (m:Int)=(!f&&!j&&v):=by unfold xh;rw[T,hr3]
    have C:aE (((du N).drop m).any (vE s out)=((!f&&!j)||((du N).drop (m+1)).any (vE s out))):=hid (by rw[hdr,List.any_cons,T]);have D:aE (((du N).drop m).find? (xh E N s out)=if(!f&&!j&&v)=aB then ab (m:Int)else((du N).drop (m+1)).find? (xh E N s out)):=hid (by rw[hdr,List.find?_cons,oB];cases(!f&&!j&&v)<;>rfl);have O:=hid (And.intro hr1 (And.intro hr2 hr3));have M:=hid u.out;clear hdr hr1 hr2 hr3 T oB hi u;generalize ((du N).drop (m+1)).any (vE s out)=lb at*;have vP:aE (∀W,ao y W->aD ax 81 #[J R m,ad A s.length c] W λe w'=>e=aA (aj f)/\W=w'):=hid λW S=>LW A c s m W f O.out.1 (((l.out.2.1.aI B.out.2).aI (b5.aI d.out.2.2.2.1)).aI S) e6;have xw:aE (∀W,ao y W->aD ax 81 #[J R m,ad z out.length H] W λe w'=>e=aA (aj j)/\W=w'):=hid λW S=>LW z H out m W j O.out.2.1 (d.out.2.2.1.aI S) ae;have c1:=vP.out wr a.out;cases f
    .have X:=hid (xw.out wr a.out);cases j
     .go_wp2_with (go_at_call 81;with_reducible refine c1.mono ?_;clear c1;rintro e w' ⟨rfl,rfl⟩);have c2:=X.out;go_wp2_with (go_at_call 81;with_reducible refine c2.mono ?_;clear c2;rintro e w' ⟨rfl,rfl⟩);have gZ:=ani Z N (cut E s) _ m z H out wr (d.out.2.2.2.2.aI a.out) fl (d.out.2.2.1.aI a.out) ae v O.out.2.2;cases v
      .go_wp2_with (go_at_call 82;with_reducible refine gZ.mono ?_;clear gZ;rintro e cG ⟨rfl,p⟩);have L:=hid p;clear p;go_roundw;case rel=>exact⟨m,nx,_,ae,aa,hid aa,aa,hid (by rw[D.out];exact M.out),by rw[C.out];rfl,ao.trans a.out L.out⟩
       case measure=>simp[cg]
      .go_wp2_with (go_at_call 82;with_reducible refine gZ.mono ?_;clear gZ;rintro e cG ⟨rfl,p⟩);have L:=hid p;clear p;go_wp2;go_roundw;case rel=>exact⟨m,_,_,ae,aa,hid aa,aa,hid (by rw[D.out];rfl),by rw[C.out];rfl,ao.trans a.out L.out⟩
       case measure=>simp[cg]
     .go_wp2_with (go_at_call 81;with_reducible refine c1.mono ?_;clear c1;rintro e w' ⟨rfl,rfl⟩);have c2:=X.out;go_wp2_with (go_at_call 81;with_reducible refine c2.mono ?_;clear c2;rintro e w' ⟨rfl,rfl⟩);go_roundw;case rel=>exact⟨m,nx,_,ae,aa,hid aa,aa,hid (by rw[D.out];exact M.out),by rw[C.out];rfl,a.out⟩
      case measure=>simp[cg]
    .go_wp2_with (go_at_call 81;with_reducible refine c1.mono ?_;clear c1;rintro e w' ⟨rfl,rfl⟩);go_roundw;case rel=>exact⟨m,nx,_,ae,aa,hid aa,aa,hid (by rw[D.out];exact M.out),by rw[C.out];rfl,a.out⟩
     case measure=>simp[cg]
end
end G
end Go.Proofs.YtcmhplknoglbkaaGreat
