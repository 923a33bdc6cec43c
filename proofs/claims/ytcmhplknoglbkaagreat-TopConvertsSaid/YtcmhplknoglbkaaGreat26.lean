/- Part 26 of the proof of TopConvertsSaid. -/
import Derived.Test.YtcmhplknoglbkaaGreat0
import Derived.Test.YtcmhplknoglbkaaGreat6
import Derived.Test.YtcmhplknoglbkaaGreat25
set_option linter.all false
set_option maxRecDepth 100000
set_option maxHeartbeats 4000000
open Go.Proofs.Tryz
open Bool renaming false->au
open Go renaming Calls->aD,undef->aZ,wpList_nil->ak,wp_region_lit->ar
open Go.Ending renaming returned->aA
open Go.IntKind renaming i64->R,u64->aH
open Go.Operand renaming tmp->bc
open Go.Proofs.Tryz renaming prog->ax,underlying235->xD
open Go.RowKit renaming Hid->aE,intOf->cx
open Go.Value renaming agg->av,bool->aj,int->J,pointer->ay,slice->ad,tuple->bh
open List renaming foldl_cons->zp,length->u3,length_append->dw,length_map->gW,mem_append->iD,not_mem_nil->gb
open Nat renaming eq_zero_or_pos->lJ,le_refl->cp,mul_le_mul_right->tE,succ_le_succ->zu,zero_le->cQ
open Option renaming none->af,some->ab
namespace Go.Proofs.YtcmhplknoglbkaaGreat
open Go.RowKit Go.MapKept
def jZ(size bound:Nat):Nat:=(bound+43)/size+1
def auc{size bound}(h:1<=size):bound+44<=jZ size bound*size:=by unfold jZ;have h1:=Nat.div_add_mod (bound+43) size;have a:=Nat.mod_lt (bound+43) h;rw[Nat.succ_mul,Nat.mul_comm _ _];omega
def vB(d:dM)(bound:Nat):Nat:=jZ d.size bound*d.size
def uk(d:dM)(first bound i:Nat):Nat:=(first+i*jZ d.size bound)*d.size
structure kk (d:dM) (first bound:Nat):Prop where
 dev:dS d
 eS:1<=bound
 eZ:bound<=65536
 fits:first+2*jZ d.size bound<=d.cnt
def kk.room{d first bound}(h:kk d first bound){i}(hi:i<=1):uk d first bound i+vB d bound<=d.bytes.length:=by unfold uk vB;rw[<-Nat.add_mul,h.dev.len];refine tE _ ?_;have:=h.fits;grind[Nat.le_one_iff_eq_zero_or_eq_one]
def kk.small{d first bound}(h:kk d first bound):d.bytes.length<=1048576/\d.cnt<=1048576/\d.size<=1048576:=by have h1:=h.dev.small;have a:=h.dev.mj;have b:=h.dev.ve;have c:d.cnt<=d.cnt*d.size:=Nat.le_mul_of_pos_right _ a;have e:d.size<=d.cnt*d.size:=Nat.le_mul_of_pos_left _ b;rw[h.dev.len];omega
def abL(size bound:Nat)(h1:1<=size)(f:1<=bound)(g:bound<=65536)w:
 aD ax 114 #[J R (size:Int),J R (bound:Int)] w λe w'=>e=aA (J R (jZ size bound:Int))/\ao w w':=by
 obtain⟨q,a⟩:=ex ((bound+43)/size);have i:q<=bound+43:=by rw[<-a];exact Nat.div_le_self _ _
 have c:=hid a;have e:jZ size bound=q+1:=by rw[jZ,a]
 rw[e];clear a e;have d:aE (∀W,aD ax 199 #[J R (bound:Int)] W λe w'=>e=aA (J R ((bound+44:Nat):Int))/\ao W w'):=hid (λW=>by have h:=adR (bound:Int) W ae;grind[kc]);go_enter func114,ntmps114;have b:=bg w;go_upto_region 0 with fail;refine ar ?_;refine cK ?_;refine cd (aj au) ?_;refine v2 ?_;refine cd (aj au) ?_;refine v3 ?_;refine cd (aj au) ?_;refine cK ?_;refine bC (d.out _) b (λw1 b=>?_);refine mN _ 1 ((bound+43:Nat):Int) ?_;refine ag ?_;refine aJ _ (Bl _ _ _ _ aa _ _ q aa aa h1 c.out ae) ?_;refine pad _ 1 ((q+1:Nat):Int) ?_;refine bR ?_;go_wp2_with fail;go_ret;exact⟨aa,b.only⟩
def abJ B m d(first bound)w(c:Has w (aO B m d))(b:kk d first bound):
 aD ax 206 #[av #[ay (ab ⟨B,0,af⟩),J R (first:Int),J R (bound:Int)]] w λe w'=>e=aA (J R (jZ d.size bound:Int))/\ao w w':=by
 have f:=hid c;clear c;go_enter func206,ntmps206;have a:=bg w;go_upto_region 0 with fail;refine ar ?_;refine bO a (av #[ay (ab ⟨B,0,af⟩),J R (first:Int),J R (bound:Int)]) (λg w1 a=>?_);refine ih ?_;refine bP a [2,5] (λi _=>match i with|2=>J R (d.size:Int)|5=>J R (jZ d.size bound:Int)|_=>aZ) (λ_ _=>emp) (λ_=>[]) (λ|1=>[0]|4=>[0]|_=>[]) (λ_=>[]) [0,3,6] (λh=>?_);refine aL ?_;refine dl 0 0 ?_;refine dE (λ_ _ a=>wK B m d _ (f.out.aI a.only).dev b.dev) ?_;refine aL ?_;refine dl 0 2 ?_;refine dE (λ_ _ _=>abL _ _ b.dev.mj b.eS b.eZ _) ?_;refine aL ?_;refine bS λj a=>?_;replace a:=a.drop 1;replace a:=a.drop 1;go_wp2_with fail;go_ret;exact⟨aa,a.only⟩
def apT B m d(first bound)w(f:Has w (aO B m d))(b:kk d first bound):
 aD ax 128 #[av #[ay (ab ⟨B,0,af⟩),J R (first:Int),J R (bound:Int)]] w λe w'=>e=aA (J R 0)/\ao w w':=by
 obtain⟨hb1,hb2,hb3⟩:=b.small;have l:=b.fits;obtain⟨n,c⟩:=ex (jZ d.size bound);have p:1<=n:=by rw[<-c];exact zu (cQ _)
 rw[c]at l;have k:aE (∀W,ao w W->aD ax 206 #[av #[ay (ab ⟨B,0,af⟩),J R (first:Int),J R (bound:Int)]] W λe w'=>e=aA (J R (n:Int))/\ao W w'):=hid (λW g=>by have h:=abJ B m d first bound W (f.aI g) b;rw[c]at h;exact h);have j:=hid f;clear f c;go_enter func128,ntmps128;have a:=bg w;go_upto_region 0 with fail;refine ar ?_;refine bO a (av #[ay (ab ⟨B,0,af⟩),J R (first:Int),J R (bound:Int)]) (λo w1 a=>?_);refine dR ?_;refine bt a 0 #[ay (ab ⟨B,0,af⟩),J R (first:Int),J R (bound:Int)] ?_;refine bC (k.out _ a.only) a (λr a=>?_);refine cK ?_;refine pl a 0 0 ?_;refine pk (aj au) ?_;refine cK ?_;refine cd (aj au) ?_;refine ih ?_;refine bP a [8,14] (λi _=>match i with|8=>J R (d.cnt:Int)|14=>J R (d.cnt:Int)|_=>aZ) (λ_ _=>emp) (λ_=>[]) (λ|1=>[0]|5=>[0]|7=>[0]|13=>[0]|16=>[0]|_=>[]) (λ_=>[]) [0,9,15] (λq=>?_);refine aL ?_;refine dl 0 1 ?_;refine aM (aj au) (λ_ _ _=>by(go_simp;try omega)) ?_;refine br ?_;refine dl 0 1 ?_;refine aL ?_;refine dl 0 0 ?_;refine dE (λ_ _ a=>KP B m d _ (j.out.aI a.only).dev b.dev) ?_;refine aM (aj au) (λ_ _ _=>by(go_simp;try omega)) ?_;refine c7 ?_;refine dl 0 0 ?_;refine dE (λ_ _ a=>KP B m d _ (j.out.aI a.only).dev b.dev) ?_;refine aL ?_;refine dl 0 1 ?_;refine aM (J R ((d.cnt -first:Nat):Int)) (λ_ _ _=>pH 3 (bc 28) (bc 30) 3 aa ((d.cnt:Int)) ((first:Int)) ((d.cnt -first:Nat):Int) aa aa ae ae ae) ?_;refine aL ?_;refine aM (J R ((2*n:Nat):Int)) (λ_ _ _=>nE 3 (.const (J R 2)) (bc 32) 3 aa 2 ((n:Int)) ((2*n:Nat):Int) aa aa ae ae ae) ?_;refine aM (aj au) (λ_ _ _=>by(go_simp;try omega)) ?_;refine br ?_;refine bS λs a=>?_;replace a:=a.drop 1;replace a:=a.drop 1;refine aF ?_;refine ag ?_;refine ak ?_;go_wp2_with fail;go_ret;exact⟨aa,a.only⟩
def abI B m d(first bound)w(f:Has w (aO B m d))(b:kk d first bound)(i:Nat)(hi:i<=1):
 aD ax 131 #[av #[ay (ab ⟨B,0,af⟩),J R (first:Int),J R (bound:Int)],J R (i:Int)] w λe w'=>e=aA (gJ ((uk d first bound i:Int),(vB d bound:Int)))/\ao w w':=by
 obtain⟨hb1,hb2,hb3⟩:=b.small;have x:=b.fits;obtain⟨n,c⟩:=ex (jZ d.size bound);have E:1<=n:=by rw[<-c];exact zu (cQ _)
 rw[c]at x;have r:aE (∀W,ao w W->aD ax 206 #[av #[ay (ab ⟨B,0,af⟩),J R (first:Int),J R (bound:Int)]] W λe w'=>e=aA (J R (n:Int))/\ao W w'):=hid (λW g=>by have h:=abJ B m d first bound W (f.aI g) b;rw[c]at h;exact h);have k:=hid f;obtain⟨z,hz⟩:=ex (i*n);have F:z<=n:=by rw[<-hz];exact Nat.le_trans (tE _ hi) (Nat.le_of_eq (Nat.one_mul _))
 have p:(i:Int)*(n:Int)=(z:Int):=ae;obtain⟨o,A⟩:=ex ((first+z)*d.size);have hoi:((first+z:Nat):Int)*(d.size:Int)=(o:Int):=ae;obtain⟨j,y⟩:=ex (n*d.size);have l:(n:Int)*(d.size:Int)=(j:Int):=ae;have C:=b.room hi;have bD:uk d first bound i=o:=by grind[uk]
 have b9:vB d bound=j:=by grind[vB]
 rw[bD,b9]at C⊢;have u:=hid p;have t:=hid hoi;have s:=hid l;clear f c bD b9 hz p A hoi y l;go_enter func131,ntmps131;have a:=bg w;go_upto_region 0 with fail;refine ar ?_;refine bO a (av #[ay (ab ⟨B,0,af⟩),J R (first:Int),J R (bound:Int)]) (λD w1 a=>?_);refine bA a #[J R 0,J R 0] (λq H a=>?_);refine aF ?_;refine bt a 1 #[ay (ab ⟨B,0,af⟩),J R (first:Int),J R (bound:Int)] ?_;refine bC (r.out _ a.only) a (λI a=>?_);refine ih ?_;refine bP a [8,13,16] (λi _=>match i with|8=>J R (d.size:Int)|13=>J R (d.size:Int)|_=>aZ) (λ_=>λ|16=>ah q #[J R (o:Int),J R (j:Int)] 35|_=>emp) (λ|16=>[0]|_=>[]) (λ|1=>[1]|7=>[1]|12=>[1]|_=>[]) (λ_=>[]) [1,10,15,18] (λG=>?_);refine aL ?_;refine dl 0 1 ?_;refine br ?_;refine aM _ (λ_ _ _=>nE 3 _ _ 3 aa _ _ _ aa aa u.out ae ae) ?_;refine aM _ (λ_ _ _=>lK 3 _ _ 3 aa _ _ ((first+z:Nat):Int) aa aa ae ae ae) ?_;refine aL ?_;refine dl 0 0 ?_;refine dE (λ_ _ a=>wK B m d _ (k.out.aI a.only).dev b.dev) ?_;refine aM _ (λ_ _ _=>nE 3 _ _ 3 aa _ _ _ aa aa t.out ae ae) ?_;refine br ?_;refine dl 0 0 ?_;refine dE (λ_ _ a=>wK B m d _ (k.out.aI a.only).dev b.dev) ?_;refine aM _ (λ_ _ _=>nE 3 _ _ 3 aa _ _ _ aa aa s.out ae ae) ?_;refine aL ?_;refine fZ _ ?_;refine bS λK a=>?_;replace a:=a.drop 1;replace a:=a.drop 1;go_wp2_with fail;refine bodyPost_ret (v:=_) (results_cell_row aa _ _ _ _ _ _ _ aa (a.a1 1) Tryz.underlying35 aa aw) aa (⟨aa,a.only⟩)
def xi(L:List RecM):bu:=⟨λb=>∃x∈L,dV x.2.1 b,λw=>∀x∈L,e3 0 w x.2.1 x.2.2 x.1.data,λw w' h a c x hx=>(cf x.2.1 x.2.2 x.1.data).ox w w' (λb hb=>h b ⟨x,hx,hb⟩) (λb hb=>a b ⟨x,hx,hb⟩) (c x hx)⟩
def ai.asV{an w FX l L r A c}(h:ai an FX w (xi L::cf A c r.data::l)):ai an FX w (xi (L++[(r,A,c)])::l):=
 h.star.as 0 aa (xi (L++[(r,A,c)])) (λh x hx=>by
  rcases iD.1 hx with hx|hx;·exact h.1 x hx
  .obtain rfl:x=(r,A,c):=aG;exact h.2.1) (λb ⟨x,hx,hb⟩=>by
  rcases iD.1 hx with hx|hx;·exact .inl ⟨x,hx,hb⟩
  .obtain rfl:x=(r,A,c):=aG;exact .inr hb)
def asX L x:fW (L++[x])=fW L++[J aH x.1.seq,J aH x.1.id,J R x.1.cur,J R x.1.off,ad x.2.1 x.1.data.length x.2.2]:=by grind[fW]
def Av(d:dM)(first bound i:Nat):Option Rec:=tP (o8 d (uk d first bound i) (vB d bound))
def Has.only{w w' t F}(h:Has w t)(g:aq F w w')(a:∀b,t.c5 b->¬F b):Has w' t:=⟨t.only h.1 h.2 g a,λb hb=>Nat.lt_of_lt_of_le (h.2 b hb) g.size⟩
def wF(l:List Rec)(o:Option Rec):List Rec:=l++o.toList
def uv(B:Nat)(first bound:Nat)(id:Int)(a d dx b:Nat)(L:List RecM)(A:Option Addr)(c:Nat):bu:=
 bQ [ah a #[ay (ab ⟨B,0,af⟩)] 32,ah d #[ay (ab ⟨dx,0,af⟩)] 125,ah dx #[ay (ab ⟨B,0,af⟩),J R (first:Int),J R (bound:Int),J aH id,J aH 1,J aH 0,J aH 0,J R 0,J R 0,ad af 0 0,aj au] 233,ah b #[ad A L.length c] 235,bp A L.length c 137 5 (fW L),xi L]
def arx B m d(first bound)id(j l dx k i:Nat)L A c w(hs:Has w (uv B first bound id j l dx k L A c))(hv:Has w (aO B m d))(U:∀b,(aO B m d).c5 b->¬(uv B first bound id j l dx k L A c).c5 b)(p:kk d first bound)(P:d.down=au)(hi:i<=1)(cj:L.length<=2):
 aD ax 129 #[J R (i:Int),ay (ab ⟨j,0,af⟩),ay (ab ⟨l,0,af⟩),ay (ab ⟨k,0,af⟩)] w λe w'=>e=aA (J R 0)/\∃C,C.map (·.1)=wF (L.map (·.1)) (Av d first bound i)/\∃aK c2,aE (C.length=0->aK=A/\c2=c)/\Turned w w' (uv B first bound id j l dx k L A c) (uv B first bound id j l dx k C aK c2):=by
 obtain⟨hb1,hb2,hb3⟩:=p.small;have Q:=p.room hi;obtain⟨of,G⟩:=ex (uk d first bound i);obtain⟨f,F⟩:=ex (vB d bound);obtain⟨bs,E⟩:=ex (o8 d of f);have hbl:bs.length=f:=by rw[<-E];exact An p.dev ae
 rw[G,F]at Q;obtain⟨y,V⟩:=ex (tP bs);have S:Av d first bound i=y:=by grind[Av]
 rw[S];have jf:aE (∀W,Has W (aO B m d)->aD ax 131 #[av #[ay (ab ⟨B,0,af⟩),J R (first:Int),J R (bound:Int)],J R (i:Int)] W λe w'=>e=aA (av #[J R (of:Int),J R (f:Int)])/\ao W w'):=hid (λW h=>by have q:=abI B m d first bound W h p i hi;rw[G,F]at q;exact q);have Z:aE (∀W,Has W (aO B m d)->aD ax 130 #[di B,av #[J R (of:Int),J R (f:Int)]] W λe w'=>∃A c,e=aA (bh #[ad A f c,J R 0])/\b5 W w' (cf A c bs)):=hid (λW h=>by have q:=Y5 B m d of f W h p.dev P Q;rw[E]at q;exact q);have K:aE (∀W aK c2,e3 0 W aK c2 bs->aD ax 132 #[ad aK f c2] W λe w'=>(∃r,y=ab r/\∃s v,e=aA (bh #[av (recC r s v),J R 0])/\b5 W w' (cf s v r.data))\/(y=af/\e=aA (bh #[av MJ,J R 19])/\ao W w')):=hid (λW aK c2 h=>by have q:=asQ aK c2 bs W ae h.2.2 h.1;rw[hbl,V]at q;exact q);have M:aE (∀W,aq (uv B first bound id j l dx k L A c).c5 w W->Has W (aO B m d)):=hid (λW g=>Has.only hv g U);clear hv U p P G F E V S hi;go_enter func129,ntmps129;have a:ai w (uv B first bound id j l dx k L A c).c5 w [ah j #[ay (ab ⟨B,0,af⟩)] 32,ah l #[ay (ab ⟨dx,0,af⟩)] 125,ah dx #[ay (ab ⟨B,0,af⟩),J R (first:Int),J R (bound:Int),J aH id,J aH 1,J aH 0,J aH 0,J R 0,J R 0,ad af 0 0,aj au] 233,ah k #[ad A L.length c] 235,bp A L.length c 137 5 (fW L),xi L]:=(ai.start (t:=bQ _) hs).kq;go_upto_region 0 with fail;refine ar ?_;refine ih ?_;refine bP a [6,7] (λi u=>match i with|6=>av #[J R (of:Int),J R (f:Int)]|7=>bh #[ad u.A f u.c,J R 0]|_=>aZ) (λx=>λ|7=>cf ((x 7).A) ((x 7).c) bs|_=>emp) (λ_=>[]) (λ|0=>[0]|1=>[1]|4=>[2]|_=>[]) (λ|7=>[7]|_=>[]) [0,1,2,3,4,5,12,13] (λx=>?_);refine dl 0 0 ?_;refine dl 0 0 ?_;refine br ?_;refine eb 0 #[ay (ab ⟨B,0,af⟩),J R (first:Int),J R (bound:Int)] ?_;refine aL ?_;refine dE (λ_ _ a=>jf.out _ (M.out _ a.only)) ?_;refine df (λwl Fr a=>(Z.out _ (M.out _ a.only)).mono ?_) ?_;·rintro e dn ⟨X,kE,rfl,D⟩;exact⟨{A:=X,c:=kE},aa,a.new _ D⟩
 refine oI ?_;refine bS λw1 a=>?_;generalize (x 7).A=H at a⊢;generalize (x 7).c=N at a⊢;replace a:=a.drop 6;refine b6 ?_;refine pk (aj au) ?_;refine ak ?_;cases y with
 |none=>
  have z:aE (∀W aK c2,e3 0 W aK c2 bs->aD ax 132 #[ad aK f c2] W λe w'=>e=aA (bh #[av MJ,J R 19])/\ao W w'):=hid (λW aK c2 h=>(K.out W aK c2 h).mono (λe w' hh=>aG));refine b6 ?_;refine bC (z.out _ H N (a.lr 6)) a (λaS a=>?_);refine v3 ?_;refine bA a #[J aH 0,J aH 0,J R 0,J R 0,ad af 0 0] (λY bN a=>?_);refine ba a 0 (av #[J aH 0,J aH 0,J R 0,J R 0,ad af 0 0]) (λcc a=>?_);refine cK ?_;refine pk (aj au) ?_;refine aF ?_;refine ag ?_;refine ak ?_;have o:=a.pk [1,2,3,4,5,6];replace o:ai _ _ _ [uv B first bound id j l dx k L A c]:=o.fC 6;go_wp2_with fail;go_ret;exact⟨aa,L,by simp[wF],A,c,(by first|exact hid (λ_=>⟨aa,aa⟩)|exact hid trivial),o.gj 0⟩
 |some r=>
  have z:aE (∀W aK c2,e3 0 W aK c2 bs->aD ax 132 #[ad aK f c2] W λe w'=>∃s v,e=aA (bh #[av #[J aH r.seq,J aH r.id,J R r.cur,J R r.off,ad s r.data.length v],J R 0])/\b5 W w' (cf s v r.data)):=hid (λW aK c2 h=>(K.out W aK c2 h).mono (λe w' hh=>aG));refine b6 ?_;refine a7 (z.out _ H N (a.lr 6)) ?_;rintro e cG ⟨n,bq,rfl,D⟩;replace a:=a.new _ D;refine bb ?_;refine v3 ?_;refine bA a #[J aH 0,J aH 0,J R 0,J R 0,ad af 0 0] (λY c6 a=>?_);refine ba a 0 (av #[J aH r.seq,J aH r.id,J R r.cur,J R r.off,ad n r.data.length bq]) (λdX a=>?_);refine cK ?_;refine pk (aj true) ?_;refine aF ?_;refine pl a 5 0 ?_;refine bt a 0 #[J aH r.seq,J aH r.id,J R r.cur,J R r.off,ad n r.data.length bq] ?_;refine ga a #[J aH r.seq,J aH r.id,J R r.cur,J R r.off,ad n r.data.length bq] 137 (λN3 dH a=>?_);refine np (m:=1) a 7 56 (aX.cellsOf (m:=1) (a.a1 0) aa) (by intro u T;simp only[List.mem_cons,gb,or_false]at T;rcases T with rfl|rfl|rfl|rfl|rfl<;>rfl) (λI O e9 a=>?_) (hby:=by omega);refine ba a 6 (ad I (L.length+1) O) (λhT a=>?_);refine aF ?_;refine ag ?_;refine ak ?_;replace a:=a.pk [8,2,3,4,5,6,7];replace a:=a.asV;have bD:fW L++[J aH r.seq,J aH r.id,J R r.cur,J R r.off,ad n r.data.length bq]=fW (L++[(r,n,bq)]):=(asX L (r,n,bq)).symm;have b9:L.length+1=(L++[(r,n,bq)]).length:=aU;rw[bD,b9]at a;have o:=a.pk [1,2,3,4,5,0];replace o:ai _ _ _ [uv B first bound id j l dx k (L++[(r,n,bq)]) I O]:=o.fC 6;go_wp2_with fail;go_ret;exact⟨aa,L++[(r,n,bq)],by simp[wF],_,_,(by first|exact hid (λh=>absurd h aU)|exact hid trivial|simp[axk]),o.gj 0⟩
structure oN where
 next:Int
 last:Rec
 has:Bool
def av7:Rec:=⟨0,0,0,0,[]⟩
def Qo:List Rec->Rec
 |[]=>av7
 |x::l=>l.foldl (λb y=>if y.seq>b.seq then y else b) x
def yH(id:Int)(l:List Rec):Rec×Bool:=(Qo (l.filter (λx=>!decide (x.id≠id))),decide (0<(l.filter (λx=>!decide (x.id≠id))).length))
theorem akc L:(jg L).1=Qo (L.map (·.1)):=by
 cases L with
 |nil=>rfl
 |cons x L=>
  show(L.foldl _ x).1=(L.map _).foldl _ x.1;induction L generalizing x with
  |nil=>rfl
  |cons y L a=>
   rw[zp,List.map_cons,zp,a];congr 1;split<;>rfl
def acu id L:(xb id L).1.1=(yH id (L.map (·.1))).1/\(xb id L).2=(yH id (L.map (·.1))).2:=by
 have e:(L.map (·.1)).filter (λx=>!decide (x.id≠id))=(L.filter (λx=>!decide (x.1.id≠id))).map (·.1):=by rw[List.filter_map];rfl
 grind[xb,yH,akc]
def Ch:List Rec->Int
 |[]=>1
 |[a]=>aH.wrap (a.seq+1)
 |a::b::_=>aH.wrap (max a.seq b.seq+1)
def uy(d:dM)(first bound:Nat):List Rec:=wF (wF [] (Av d first bound 0)) (Av d first bound 1)
def r0(d:dM)(first bound:Nat)(id:Int):oN:=⟨Ch (uy d first bound),(yH id (uy d first bound)).1,(yH id (uy d first bound)).2⟩
def acN d(first bound)id:(r0 d first bound id).next =Ch (uy d first bound):=by rw[r0]
theorem Tc d(first bound)id:(r0 d first bound id).last=(yH id (uy d first bound)).1:=by rw[r0]
theorem Tb d(first bound)id:(r0 d first bound id).has=(yH id (uy d first bound)).2:=by rw[r0]
abbrev LZ(B first bound:Nat)(id:Int)(j:oN)(A:Option Addr)(c:Nat):Array Value:=#[ay (ab ⟨B,0,af⟩),J R (first:Int),J R (bound:Int),J aH id,J aH j.next,J aH j.last.seq,J aH j.last.id,J R j.last.cur,J R j.last.off,ad A j.last.data.length c,aj j.has]
def p0(dx B first bound:Nat)(id:Int)(j:oN)(A:Option Addr)(c:Nat):bu:=both (ah dx (LZ B first bound id j A c) 233) (cf A c j.last.data)
def TG{P o}{a:Act}{w}{g n c e sz i:Nat}{xs v ty x}(h:Row 0 w (ab ⟨g,0,af⟩) n c e sz xs)(hv:xs[i]?=ab v)(k:o.op=.load ty x)(hx:a.eval x=ay (ab ⟨g,i,af⟩))(l:(P.underlying ty).map (λd=>d.isRow)=ab au):(execOp a.eval o).run P w=.ok (.value v) w:=by
 have f:0<n:=by
  rcases lJ n with b|b;·have h1:=h.1;grind
  .omega
 obtain⟨g2,cur,b9,hb,_,_,_,j⟩:=h.blk f;grind[fz]
def alR{bs r}(h:tP bs=ab r):r.data.length<=bs.length:=by grind[tP,sX]
theorem adA{d first bound}(a:kk d first bound)r(h:r∈uy d first bound):r.data.length<=140737488355328:=by
 have key:∀i,i<=1->∀r,Av d _ _ i=ab r->r.data.length<=140737488355328:=λi hi r hr=>by have h1:=alR hr;have b:=a.room hi;have c:=a.small;rw[An a.dev b]at h1;omega
 grind[uy,wF]
def IB(d:dM)(first bound:Nat):Nat->List Rec
 |0=>[]
 |j+1=>wF (IB d first bound j) (Av d first bound j)
def aeq d(first bound):∀j,(IB d first bound j).length<=j
 |0=>cp _
 |j+1=>by have:=aeq d first bound j;rw[IB,wF,dw];cases Av d first bound j<;>simp<;>omega
def ap2 B m d(first bound)id w(hs:Has w (aO B m d))(hj:kk d first bound)(cZ:d.down=au):
 aD ax 54 #[di B,J R (first:Int),J R (bound:Int),J aH id] w λe w'=>∃dx,e=aA (bh #[ay (ab ⟨dx,0,af⟩),J R 0])/\∃A c,b5 w w' (p0 dx B first bound id (r0 d first bound id) A c):=by
 have lq:=hid (λW g=>apT B m d _ _ W (hs.aI g) hj);have k0:=hs.2;obtain⟨k,sL⟩:=ex (r0 d first bound id);have T:=hid sL;rw[sL];clear sL;go_enter func54,ntmps54;have a:=bg w;go_step;refine aF ?_;refine bO a (ay _) (λC w1 a=>?_);refine v2 ?_;refine aF ?_;refine pl a 0 0 ?_;refine v5 ?_;refine bO a (av _) (λo aS a=>?_);refine bA a #[ay _] (λF bN a=>?_);refine ba a 0 (ay _) (λcc a=>?_);refine aF ?_;refine pl a 0 0 ?_;refine v2 ?_;refine bt a 1 #[ay (ab ⟨B,0,af⟩),J R (first:Int),J R (bound:Int)] ?_;refine bC (lq _ a.only) a (λcG a=>?_);refine cK ?_;refine pk (aj au) ?_;refine aF ?_;refine bA a #[ad af 0 0] (λz c6 a=>?_);refine aF ?_;refine v2 ?_;refine aF ?_;refine ag ?_;refine ak ?_;replace a:=(a.new (xi []) ⟨aq.refl _ _,λx hx=>absurd hx gb,λb ⟨x,hx,_⟩=>absurd hx gb⟩).new (bp _ 0 0 137 5 []) ⟨aq.refl _ _,Row.nil _ _ _ _,λb ⟨_,_,e⟩=>by cases e⟩;replace a:ai w (λ_=>False) c6 [uv B _ _ id C F o z [] af 0]:=(a.pick (l':=[ah C _ 32,ah _ _ 125,ah o _ 233,ah z _ 235,bp af 0 0 137 5 [],xi []]) [5,3,4,2,0,1]).fC 6;go_wp2_with fail;go_loopw [34] (λt wr=>∃(j:Nat) (L:List RecM) (A:Option Addr) (c:Nat),j<=2/\t=J R (j:Int)/\L.map (·.1)=(IB d first bound j)/\(L.length=0->A=af/\c=0)/\ai w (λ_=>False) wr [uv B first bound id C F o z L A c]) (λt wr=>2 -(cx t).toNat);case atStart=>exact⟨0,[],_,0,ae,rfl,rfl,λ_=>⟨aa,aa⟩,a⟩
 case round=>
  clear a;obtain⟨j,L,A,c,Lp,rfl,E,H,a⟩:=hrel;have BE:L.length<=j:=by have h:=congrArg u3 E;rw[gW]at h;rw[h];exact aeq _ _ _ _
  by_cases hlt:j<2
  .have cJ:(j:Int)<2:=ae
   have bL:aE (∀W,ao w W->Has W _->(∀b,(uv B first bound id C F o z L A c).c5 b->w.heap.size<=b)->aD ax 129 _ W λe w'=>e=aA (J R 0)/\∃s,s.map (·.1)=(IB d first bound (j+1))/\∃aK c2,(s.length=0->aK=af/\c2=0)/\Turned W w' _ (uv B first bound id C F o z s aK c2)):=hid (λW g h hf=>by have q:=arx B m d _ _ id _ _ _ _ j L A c W h (hs.aI g) (λb hb hb2=>by have h1:=hf b hb2;have G:=k0 b hb;omega) hj cZ ae ae;rw[E]at q;exact q.mono (λe aS ⟨h1,s,G,aK,c2,h3,h4⟩=>⟨h1,s,G,aK,c2,λn=>by have Z:=congrArg u3 G;rw[gW,n]at Z;have h6:L.length=0:=(by rw[<-gW (f:=(·.1)),E];unfold wF at Z;rw[dw]at Z;omega);exact⟨(h3 n).1.trans (H h6).1,(h3 n).2.trans (H h6).2⟩,h4⟩));clear E BE H;go_step;refine aF ?_;refine ag ?_;refine aF ?_;refine v2 ?_;refine jb ?_;refine a7 (bL.out _ a.only (a.has 0) (λb hb=>((a.low _ (List.mem_singleton.2 aa) b hb).2).resolve_right (λh=>h))) ?_;rintro e dX ⟨rfl,s,D4,aK,c2,sK,bH⟩;replace a:=a.eG 0 bH;refine bb ?_;refine cK ?_;refine pk (aj au) ?_;refine aF ?_;refine pad (j:Int) 1 ((j+1:Nat):Int) ?_;refine bR ?_;go_wp2_with fail;go_roundw;case rel=>exact⟨j+1,s,aK,c2,ae,aa,D4,sK,a⟩
   case measure=>simp[cx]<;>omega
  .have cJ:¬(j:Int)<2:=ae;obtain rfl:j=2:=ae;have I:L.map _=uy d _ _:=E;have iH:∀x∈L,x.1.data.length<=140737488355328:=λx hx=>adA hj _ (by rw[<-I];exact List.mem_map_of_mem hx);have Db:=hid iH;have K:=hid H;have vo:k.next=Ch (L.map (·.1)):=by rw[<-T,acN,I]
   have kJ:k.last=(xb id L).1.1/\k.has=(xb id L).2:=⟨by rw[<-T,(acu id L).1,I,Tc],by rw[<-T,(acu id L).2,I,Tb]⟩;have WB:=hid vo;have M:=hid kJ;clear E I iH H vo kJ;go_step;refine aF ?_;refine bR ?_;replace a:=a.lE;refine aF ?_;refine pl a 3 0 ?_;refine dQ ?_;go_wp2_with fail;go_loopw [46] (λt wr=>∃(q:Nat) (nx:Int),q<=L.length/\t=J R (q:Int)/\(L.length=0->nx=1)/\(q=1->L.length=1->nx=Ch (L.map (·.1)))/\ai w (λ_=>False) wr [ah C #[ay (ab ⟨B,0,af⟩)] 32,ah F #[ay (ab ⟨o,0,af⟩)] 125,ah o #[ay (ab ⟨B,0,af⟩),J R (first:Int),J R (bound:Int),J aH id,J aH nx,J aH 0,J aH 0,J R 0,J R 0,ad af 0 0,aj au] 233,ah z #[ad A L.length c] 235,bp A L.length c 137 5 (fW L),xi L]) (λt wr=>L.length -(cx t).toNat);case atStart=>exact⟨0,1,ae,rfl,λ_=>rfl,λh=>absurd h ae,a⟩
   case round=>
    clear a;obtain⟨q,nx,hq,rfl,lR,nJ,a⟩:=hrel;by_cases Hz:q<L.length
    .have aoH:(q:Int)<(L.length:Int):=ae;obtain⟨x,hx⟩:∃x,L[q]?=ab x:=⟨_,List.getElem?_eq_getElem Hz⟩;obtain⟨D,cur,N,kI,_,_,_,_⟩:=(a.atR 4).blk ae;have dP:=hid (TA L q x hx);have hx0:q=0->L.length=1->Ch (L.map (·.1))=aH.wrap (x.1.seq+1):=λh h1=>by subst h;obtain⟨y,hy⟩:=List.length_eq_one_iff.1 h1;subst hy;injection hx with hx;subst hx;rfl
     have aiX:=hid hx0;have axi:=hid lR;have axj:=hid nJ;have b7:=hid N;clear hx kI N lR nJ hx0;go_step;refine aF ?_;refine cK ?_;refine aJ (ay (ab ⟨D,(q*5),af⟩)) (cI 235 137 5 (bc 44) (bc 46) aa xD aw D 0 (L.length) c q ((q*5)) (by show ad A _ _=_;rw[b7]) aa Hz ae) ?_;refine aJ _ (by(refine e7 137 _ aa D _ aa _ (Row.range (a.atR 4) b7 (λi v hi=>dP i v hi)) Tryz.underlying137 aa aw)) ?_;refine bA a #[J _ 0,J _ 0,J _ 0,J _ 0,ad _ 0 0] (λUy dH a=>?_);refine ag ?_;refine ba a 0 (av _) (λe9 a=>?_);refine ak ?_;by_cases ue:q=0
     .have O:(q:Int)=0:=ae;refine dh ?_;refine bP a [] (λ_ _=>aZ) (λ_ _=>emp) (λ_=>[]) (λ_=>[]) (λ_=>[]) [0,1,2,3,4,5,6] (λl=>?_);refine aL ?_;refine aM (aj true) (λ_ _ _=>by(go_simp;try simp[O])) ?_;refine aL ?_;iterate 7 refine ds ?_
      refine gC (aj true) ?_;refine bS λhT a=>?_;refine aF ?_;refine pl a 2 0 ?_;refine ag ?_;refine pl a 0 0 ?_;refine pk (J aH (aH.wrap (x.1.seq+1))) ?_;refine v2 ?_;refine ba a 3 (J _ _) (λi' a=>?_);refine ak ?_;have aiD:=hid ue;clear O ue;refine aF ?_;refine pad (q:Int) 1 ((q+1:Nat):Int) ?_;refine bR ?_;go_wp2_with fail;go_roundw;case rel=>exact⟨q+1,_,ae,rfl,λh=>absurd h ae,λ_ h=>(aiX aiD h).symm,a.pick [1,2,3,4,5,6]⟩
      case measure=>simp[cx]<;>omega
     .have O:¬(q:Int)=0:=ae;obtain⟨dC,hcb⟩:=ex (decide (nx<=x.1.seq));have wk:=hid hcb;clear hcb;refine dh ?_;refine bP a [] (λ_ _=>aZ) (λ_ _=>emp) (λ_=>[]) (λ|4=>[0]|5=>[2]|8=>[3]|_=>[]) (λ_=>[]) [0,1,2,3,4,5,6] (λl=>?_);refine aL ?_;refine aM (aj au) (λ_ _ _=>by(go_simp;try simp[O])) ?_;refine br ?_;refine dl 0 0 ?_;refine dl 0 0 ?_;refine br ?_;refine dl 0 4 ?_;refine aM (aj dC) (λ_ _ _=>by(have h:=wk.out;first|(go_simp;done)|(go_simp;rw[<-h];done)|(go_simp;simp[<-h]))) ?_;refine gC (aj dC) ?_;refine bS λks a=>?_;cases dC with
      |true=>
       refine aF ?_;refine pl a 2 0 ?_;refine ag ?_;refine pl a 0 0 ?_;refine pk (J aH (aH.wrap (x.1.seq+1))) ?_;refine v2 ?_;refine ba a 3 (J _ _) (λlf a=>?_);refine aF ?_;refine pad (q:Int) 1 ((q+1:Nat):Int) ?_;refine bR ?_;go_wp2_with fail;go_roundw;case rel=>exact⟨q+1,_,ae,rfl,λh=>absurd h ae,λh=>absurd h ae,a.pick [1,2,3,4,5,6]⟩
       case measure=>simp[cx]<;>omega
      |false=>
       refine aF ?_;refine pad (q:Int) 1 ((q+1:Nat):Int) ?_;refine bR ?_;go_wp2_with fail;go_roundw;case rel=>exact⟨q+1,nx,ae,rfl,λh=>absurd h ae,λh=>absurd h ae,a.pick [1,2,3,4,5,6]⟩
       case measure=>simp[cx]<;>omega
    .have aoH:¬(q:Int)<(L.length:Int):=ae;obtain rfl:q=L.length:=ae;go_step;refine aF ?_;refine bR ?_;by_cases G:L.length=2
     .have anF:(L.length:Int)=2:=ae;obtain⟨r,dc,rfl⟩:∃r dc,L=[r,dc]:=by rcases L with _|⟨r,_|⟨dc,_|⟨bo,L⟩⟩⟩<;>first|exact⟨_,_,aa⟩|(simp at G)
      obtain⟨D,cur,N,_,_,_,_,_⟩:=(a.atR 4).blk (Nat.zero_lt_succ _);subst N;have BE:=cp 2;skip;refine aF ?_;refine pl a 3 0 ?_;refine ag ?_;refine pk (aj true) ?_;refine dh ?_;refine bP a [13] (λ_ _=>aZ) (λ_=>λ|13=>ah o #[ay (ab ⟨B,0,af⟩),J R (first:Int),J R (bound:Int),J aH id,J aH (aH.wrap (max r.1.seq dc.1.seq+1)),J aH 0,J aH 0,J R 0,J R 0,ad af 0 0,aj au] 233|_=>emp) (λ|13=>[2]|_=>[]) (λ|0=>[1]|1=>[3]|4=>[4]|5=>[3]|8=>[4]|_=>[]) (λ_=>[]) [0,1,3,4,5,19] (λl=>?_);refine dl 0 0 ?_;refine dl 0 0 ?_;refine aM _ (λ_ _ _=>cI 235 137 5 _ _ aa xD aw D 0 2 c 0 0 aa aa bj aa) ?_;refine aL ?_;refine aM _ (λ_ _ a=>TG (a.atR 0) (i:=0) aa aa aa aw) ?_;refine dl 0 0 ?_;refine aM _ (λ_ _ _=>cI 235 137 5 _ _ aa xD aw D 0 2 c 1 5 aa aa bj aa) ?_;refine aL ?_;refine aM _ (λ_ _ a=>TG (a.atR 0) (i:=5) aa aa aa aw) ?_;refine aM _ (λ_ _ _=>by(go_simp;try with_reducible rfl)) ?_;refine gC (J aH (aH.wrap (max r.1.seq dc.1.seq+1))) ?_;refine br ?_;refine fZ _ ?_;refine bS λmm a=>?_;have gg:aH.wrap (max r.1.seq dc.1.seq+1)=k.next:=by rw[WB];rfl
      have Rl:([r,dc]).length<=1073741824:=by show 2<=_;omega
      have U:aE (∀W,Row 0 W _ _ c 137 5 _->(xi _).p W->aD _ 133 _ W λe w'=>∃P V,e=aA (bh #[av #[J aH _,J aH _,J R _,J R _,ad P _ V],aj _])/\b5 W w' _):=hid (λW h hd=>by have q:=acv id _ c _ W Rl h (λn=>(K n).1) (λn=>(K n).2) (λx hx=>⟨(hd x hx).1,Db x hx⟩);rw[<-M.1,<-M.2]at q;exact q);refine dh ?_;refine bP a [4,10,13] (λi u=>match i with|4=>bh #[av #[J aH k.last.seq,J aH k.last.id,J R k.last.cur,J R k.last.off,ad u.A k.last.data.length u.c],aj k.has]|_=>aZ) (λl=>λ|4=>cf ((l 4).A) ((l 4).c) k.last.data|10=>ah o #[ay (ab ⟨B,0,af⟩),J R (first:Int),J R (bound:Int),J aH id,J aH (aH.wrap (max r.1.seq dc.1.seq+1)),J aH k.last.seq,J aH k.last.id,J R k.last.cur,J R k.last.off,ad (l 4).A k.last.data.length (l 4).c,aj au] 233|13=>ah o #[ay (ab ⟨B,0,af⟩),J R (first:Int),J R (bound:Int),J aH id,J aH (aH.wrap (max r.1.seq dc.1.seq+1)),J aH k.last.seq,J aH k.last.id,J R k.last.cur,J R k.last.off,ad (l 4).A k.last.data.length (l 4).c,aj k.has] 233|_=>emp) (λ|10=>[5]|13=>[16]|_=>[]) (λ|0=>[1]|1=>[1]|3=>[2]|4=>[3,4]|_=>[]) (λ|4=>[4]|10=>[4]|13=>[4]|_=>[]) [0,1,2,3,4,10,19] (λl=>?_);refine dl 0 0 ?_;refine dl 0 0 ?_;refine aL ?_;refine dl 0 0 ?_;refine df (λwl Fr a=>(U _ (a.atR 0) (a.at 1)).mono ?_) ?_;·rintro e dn ⟨S,Y,rfl,hF⟩;exact⟨{A:=S,c:=Y},aa,a.new _ hF⟩
      refine oI ?_;refine fZ _ ?_;refine br ?_;refine fZ _ ?_;refine bS λnU a=>?_;generalize (l 4).A=Q at a⊢;generalize (l 4).c=X at a⊢;refine aF ?_;refine pl a 1 0 ?_;refine dQ ?_;replace a:=(a.pick (l':=[ah o _ 233,cf Q X _]) [6,5]).star;rw[gg]at a;go_wp2_with fail;go_ret2;exact⟨_,aa,_,_,a.fresh 0⟩
     .have anF:¬(L.length:Int)=2:=ae;refine aF ?_;refine pl a 3 0 ?_;refine ag ?_;refine cd (aj au) ?_;refine ak ?_
      have gg:nx=k.next:=by
       rw[WB];rcases lJ L.length with n|n;·rw[lR n,List.eq_nil_of_length_eq_zero n];rfl
       .exact nJ ae ae
      have Rl:(L).length<=1073741824:=ae;have U:aE (∀W,Row 0 W A _ c 137 5 _->(xi L).p W->aD _ _ _ W λe w'=>∃P V,e=aA (bh #[av #[J _ _,J _ _,J _ _,J _ _,ad P _ V],aj _])/\b5 W w' _):=hid (λW h hd=>by have q:=acv id A c L W Rl h (λn=>(K n).1) (λn=>(K n).2) (λx hx=>⟨(hd x hx).1,Db x hx⟩);rw[<-M.1,<-M.2]at q;exact q);refine dh ?_;refine bP a [4,10,13] (λi u=>match i with|4=>bh #[av #[J aH k.last.seq,J aH k.last.id,J R k.last.cur,J R k.last.off,ad u.A k.last.data.length u.c],aj k.has]|_=>aZ) (λl=>λ|4=>cf ((l 4).A) ((l 4).c) k.last.data|10=>ah o #[ay (ab ⟨B,0,af⟩),J R (first:Int),J R (bound:Int),J aH id,J aH nx,J aH k.last.seq,J aH k.last.id,J R k.last.cur,J R k.last.off,ad (l 4).A k.last.data.length (l 4).c,aj au] 233|13=>ah o #[ay (ab ⟨B,0,af⟩),J R (first:Int),J R (bound:Int),J aH id,J aH nx,J aH k.last.seq,J aH k.last.id,J R k.last.cur,J R k.last.off,ad (l 4).A k.last.data.length (l 4).c,aj k.has] 233|_=>emp) (λ|10=>[2]|13=>[16]|_=>[]) (λ|0=>[1]|1=>[1]|3=>[3]|4=>[4,5]|_=>[]) (λ|4=>[4]|10=>[4]|13=>[4]|_=>[]) [0,1,3,4,5,10,19] (λl=>?_);refine dl 0 0 ?_;refine dl 0 0 ?_;refine aL ?_;refine dl 0 0 ?_;refine df (λwl Fr a=>(U _ (a.atR 0) (a.at 1)).mono ?_) ?_;·rintro e dn ⟨S,Y,rfl,hF⟩;exact⟨{A:=S,c:=Y},aa,a.new _ hF⟩
      refine oI ?_;refine fZ _ ?_;refine br ?_;refine fZ _ ?_;refine bS λpa a=>?_;generalize (l 4).A=Q at a⊢;generalize (l 4).c=X at a⊢;refine aF ?_;refine pl a 1 0 ?_;refine dQ ?_;replace a:=(a.pick (l':=[ah _ _ 233,cf Q X _]) [6,5]).star;rw[gg]at a;go_wp2_with fail;go_ret2;exact⟨_,aa,_,_,a.fresh 0⟩
end Go.Proofs.YtcmhplknoglbkaaGreat
