/- Part 20 of the proof of TopConvertsSaid. -/
import Derived.Sort.OwnSorted
import Derived.Lib.SlKeysI
import Derived.Test.YtcmhplknoglbkaaGreat0
import Derived.Test.YtcmhplknoglbkaaGreat6
import Derived.Test.YtcmhplknoglbkaaGreat13
import Derived.Test.YtcmhplknoglbkaaGreat14
import Derived.Test.YtcmhplknoglbkaaGreat15
set_option linter.all false
set_option maxRecDepth 100000
set_option maxHeartbeats 4000000
open Go.Proofs.Tryz
open Array renaming replicate_succ->qc,replicate_zero->qd
open Bool renaming false->au
open Function renaming comp_def->Jf
open Go.Builtin renaming len_->afK
open Go renaming Calls->aD,CallsIn->q9,Value->aP,World->aN,callsIn_of_wp->C6,callsIn_wide->sk,cell_of_row->eC,heap_alloc_new->ff,intKeys->Wa,maxLen->dO
open Go.Ending renaming returned->aA
open Go.Fence renaming wide->mr
open Go.Fn renaming func->ek
open Go.Instr renaming lookup->qg
open Go.IntKind renaming i64->R
open Go.Maps renaming size->Jm
open Go.Obj renaming cells->bf
open Go.Proofs.Tryz renaming prog->ax,underlying303->AQ,underlying467->VS
open Go.RowKit renaming Hid->aE
open Go.Value renaming bool->aj,func->dK,int->J,map->dF,pointer->ay,slice->ad
open Go.WideElems renaming rd->ahI
open Go.World renaming block_lt_of_cell?->uN
open List renaming Nodup->aja,append_toArray->qq,cons_append->py,eq_nil_of_length_eq_zero->jH,length->u3,length_cons->jT,length_nil->l2,nil_append->na,pairwise_and_iff->aji,pairwise_map->xW,push_toArray->qs,size_toArray->iR
open List.Pairwise renaming filter->W6
open Nat renaming eq_zero_or_pos->lJ,le_refl->cp,zero_add->kV
open Option renaming none->af,some->ab
namespace Go.Proofs.YtcmhplknoglbkaaGreat
namespace G
open Go.RowKit Go.Shelf Go.Sort Go.Maps
def qW(xs:List Int):List Int:=xs.mergeSort (λx y=>decide (x<=y))
def yO xs:(qW xs).Perm xs:=List.mergeSort_perm _ _
theorem MT xs:(qW xs).length=xs.length:=(yO xs).length_eq
def MU xs:(qW xs).Pairwise (·<=·):=by have:=List.pairwise_mergeSort (le:=λx y:Int=>decide (x<=y)) (λa b c h1 d=>aG) (λa b=>aG) xs;exact this.imp (λh=>aG)
def amE{l l':List Int}(d:l.Perm l')(h:l.Pairwise (·<=·))(c:l'.Pairwise (·<=·)):l=l':=
 d.eq_of_pairwise (λa b _ _ h1 e=>ae) h c
def auk{xs cq}(a:cq.Perm xs)(b:cq.Pairwise (·<=·)):qW xs=cq:=
 amE ((yO xs).trans a.symm) (MU xs) b
def auj{xs cq}(a:xs.Perm cq):qW xs=qW cq:=auk ((yO cq).trans a.symm) (MU cq)
def collect_in F n (d:F.fn 254) (f:F.fn 312) (g:F.fn 256) (hro:F.round=af) (h:4<=n) (bZ cap) A a (hbytes:a.length*8<=140737488351232) w
 (yg:bZ<w.heap.size) (hc0:w.cell? ⟨bZ,0,af⟩=ab (ad A a.length cap)) (f':cX w A a):
 q9 F n ax 254 #[dK (ek 256) #[] #[ay (ab ⟨bZ,0,af⟩)]] w λe b=>∃v,e=aA v/\b.ownsRow w.heap.size 3 1 v a.length (a.map (J R))/\(v=ad af 0 0↔a=[])/\Below w.heap.size w b:=by
 have h1:1<=n:=ae;have c:=hid (appendSeq_in F (n -1) f g hro ae bZ cap A a hbytes w yg hc0 f');clear hc0 f';refine C6 func254 aa d ?_ hro;simp only[ntmps254,iR,jT,l2,qc,qd,qs,qq,na,py];gi_wp2_with (gi_at_call 312;refine(c.out).mono ?_;rintro e w' ⟨v,rfl,hrow,hnil,hb⟩);go_ret;exact⟨v,aa,hrow,hnil,hb⟩
def TR m:AnyZI.SortsIn ax Tryz.aew mr m:=
 ⟨λblk off cap b W a hblk hsz=>sk.2 (AnyM.slices_Sort_int Tryz.aet blk off cap b W a hblk hsz),
  λp cap W=>sk.2 (AnyM.slices_Sort_int_none Tryz.aet p cap W)⟩
def sorted_in (bZ cap) A a (hbytes:a.length*8<=140737488351232) w
 (yg:bZ<w.heap.size) (hc0:w.cell? ⟨bZ,0,af⟩=ab (ad A a.length cap)) (f':cX w A a):
 q9 mr 6 ax 183 #[dK (ek 256) #[] #[ay (ab ⟨bZ,0,af⟩)]] w λe h=>∃v,e=aA v/\h.ownsRow w.heap.size 3 1 v a.length ((qW a).map encZ)/\Below w.heap.size w h:=by
 have r:=hid (collect_in mr 5 trivial trivial trivial aa ae bZ cap A a hbytes w yg hc0 f');have l:=λblk off cap C W f hblk hsz=>(TR 5).1 blk off cap C W f hblk hsz;have m:=λp cap W=>(TR 5).2 p cap W;have D:mr.fn 254:=trivial;have hf2:mr.fn 255:=trivial;have s:=hid l;have t:=hid m;clear hc0 f' l m;refine C6 func183 aa trivial ?_ aa;simp only[ntmps183,iR,jT,l2,qc,qd,qs,qq,na,py];gi_wp2_with (gi_at_call 254;refine(r.out).mono ?_;rintro e W ⟨v,rfl,hrow,hnil,hb⟩);rcases hrow.2 with⟨rfl,hz⟩|⟨c,i,cur,rfl,hbase,hgb,n,o,q,B⟩;·have z:a=[]:=jH hz;subst z;have b:q9 mr 5 ax 255 #[ad af 0 0] W λe w'=>e=aA (.tuple #[])/\w'=W:=t.out af 0 W;have g:=hid b;clear b;gi_wp2_with (gi_at_call 255;refine(g.out).mono ?_;rintro e w' ⟨rfl,rfl⟩);go_ret;exact⟨_,aa,by simpa [qW]using hrow,hb⟩
 .have f:Holds encZ W c 0 a.toArray:=holds_of_block_i hgb aG;have u:c<W.heap.size:=(Array.getElem?_eq_some_iff.1 hgb).1;have hsz:a.length<4611686018427387904:=ae;have b:q9 mr 5 ax 255 #[ad (ab ⟨c,0,af⟩) a.length i] W λe w'=>e=aA (.tuple #[])/\∃k os,w'=grow (putRow encZ (Sort.ahead W k) c 0 (a.mergeSort λx y=>decide (x<=y)).toArray) os:=s.out c 0 i a W f u hsz;have g:=hid b;have d:=hid (And.intro hgb (And.intro n (And.intro o q)));clear b f hgb n o q B hrow;gi_wp2_with (gi_at_call 255;refine(g.out).mono ?_;rintro e w' ⟨rfl,F,os,rfl⟩);go_ret;exact⟨_,aa,ownsRow_sorted_i aU hbase d.out.1 d.out.2.1 d.out.2.2.1 d.out.2.2.2,hb.grown (grownBy_sorted_i _) hb.size (λj E=>aG)⟩
def ae4 A(len cap)w:
 aD ax 184 #[ad A len cap] w λe w'=>e=aA (dK (ek 256) #[] #[ay (ab ⟨w.heap.size,0,af⟩)])/\w.alloc (bf #[ad A len cap] 82)=w':=
 ((sk (n:=2)).1 (au9 mr 2 trivial aa A len cap w)).mono λ_ _ ⟨h1,a⟩=>⟨h1,a.symm⟩
def pC(w w':aN)(v:aP)(xs:List Int):Prop:=w'.ownsRow w.heap.size 3 1 v xs.length (xs.map (J R))
def pC.form{w w' v xs}(h:pC w w' v xs):∃A c,v=ad A xs.length c/\cX w' A xs/\xs.length<=c/\c<=dO/\∀b off,A=ab ⟨b,off,af⟩->w.heap.size<=b/\b<w'.heap.size:=by
 have a:=h;rcases h.2 with⟨rfl,hz⟩|⟨g,cap,cur,rfl,hb,j,h1,d,f,i⟩;·grind[cX.nil]
 .exact⟨_,_,aa,cX.lW a,h1,d,λb off e=>aG⟩
def aex(bZ cap)A a(hbytes:a.length*8<=140737488351232)w(hc0:w.cell? ⟨bZ,0,af⟩=ab (ad A a.length cap))(c:cX w A a):
 aD ax 183 #[dK (ek 256) #[] #[ay (ab ⟨bZ,0,af⟩)]] w λe w'=>∃v,e=aA v/\pC w w' v (qW a)/\ao w w':=
 ((sk (n:=6)).1 (sorted_in bZ cap A a hbytes w (uN w _ hc0) hc0 c)).mono λ_ _ ⟨v,h1,d,b⟩=>
  ⟨v,h1,by grind[pC,MT],aq.Mo b (cp _)⟩
theorem GN A c xs x w(hx:cX w A xs)(h1:xs.length<=9223372036854775807):
 aD ax 190 #[ad A xs.length c,J R x] w λe w'=>e=aA (aj (decide (x∈xs)))/\w=w':=by
 rcases lJ xs.length with d|d;·obtain rfl:xs=[]:=jH d;exact(Any.slices_Contains_int_empty Tryz.abV A c x w).mono λ_ _ ⟨a,b⟩=>⟨aG,b.symm⟩
 .obtain⟨eS,fb,rfl,c1⟩:=hx d;refine(Any.slices_Contains_int Tryz.abV eS fb xs.length c xs x w (cp _) h1 (λj f=>aU)).mono λ_ _ ⟨a,b⟩=>⟨?_,b.symm⟩;grind
def akT A c xs w(hx:cX w A xs)(h1:xs.length*8<=140737488355328):
 aD ax 380 #[ad A xs.length c] w λe w'=>∃v,e=aA v/\pC w w' v xs/\ao w w':=by
 rcases A with _|a
 .obtain rfl:xs=[]:=by
   rcases lJ xs.length with f|f;·grind
   .obtain⟨_,_,h,_⟩:=hx f;cases h
  exact(Any.slices_Clone_int_nil Tryz.SM 0 c w).mono λ_ _ ⟨a,b⟩=>⟨_,a,b▸World.ownsRow_nil _ _ _ _,b▸aq.refl _ _⟩
 .rcases lJ xs.length with f|f;·obtain rfl:xs=[]:=jH f;exact(Any.slices_Clone_int_zero Tryz.SM a c w).mono λ_ _ ⟨v,a,b,_,d⟩=>⟨v,a,b,aq.Mo d (cp _)⟩
  .obtain⟨eS,fb,e,c1⟩:=hx f;cases e;refine(Any.slices_Clone_int Tryz.SM eS fb xs.length c xs w (cp _) h1 (λj g=>aU)).mono λ_ _ ⟨v,a,b,_,d⟩=>⟨v,a,?_,aq.Mo d (cp _)⟩;rw[List.take_length]at b;exact b
open Go.RowKit Go.MapKept
def aoe(w:aN)(o o'):((w.alloc o).alloc o').heap[w.heap.size+1]?=ab o':=by grind[ff,World.size_alloc]
abbrev b5(w w':aN):Prop:=aq (λi=>w.heap.size<=i) w w'
def b5.aI{w w'}(h:b5 w w'):ao w w':=⟨h.os,h.tape,h.output,h.size,λk hk _=>h.block k hk ae⟩
def yK{w base v m xs}(h:w.ownsRow base 3 1 v m (xs.map (J R))):∃A c,v=ad A xs.length c/\cX w A xs:=by
 have a:m=xs.length:=by simpa using h.1.symm
 subst a;rcases h.2 with⟨rfl,hz⟩|⟨g,cap,cur,rfl,_⟩;·grind[cX.nil]
 .grind[cX.lW]
def Co{w:aN}{base a e size:Nat}{v m xs}(h:w.ownsRow base e size v m xs)(hb:a<=base):w.ownsRow a e size v m xs:=by
 refine⟨h.1,?_⟩;rcases h.2 with h2|⟨g,cap,cur,rfl,hg,r⟩;·grind
 .exact .inr ⟨g,_,_,aa,Nat.le_trans hb hg,r⟩
def pC.from{w w1 w' v xs}(h:pC w1 w' v xs)(a:w.heap.size<=w1.heap.size):pC w w' v xs:=Co h a
def lY(E:List (Int×Int))(v:Int):List Int:=qW (succ E v)
def mK(E:List (Int×Int))(v:Int):List Int:=qW (pred E v)
set_option maxHeartbeats 400000 in
def arM b(n v)E F w(h:gV w F b n E)(hv:db v)(k:E.length<=1099511627776):
 aD ax 92 #[ay (ab ⟨b,0,af⟩),J R v] w λe w'=>∃r,e=aA r/\pC w w' r (lY E v)/\ao w w':=by
 obtain⟨⟨fJ,cW,fA,eQ,eO,g⟩,_⟩:=h;have j:=eC _ _ 2 _ _ _ g.blk;simp at j;have hlk:=(g.out.lookup o4 AQ Ft hv).1;obtain⟨A,c,a,d⟩:=yK (g.Ij v);rw[a]at hlk;replace hlk:(qg 303 (dF (ab cW)) (J R v) au).run ax w=.ok (ad A (succ E v).length c) w:=hlk;have hlen:=IE E v;have f:=hid d;clear a d g;go_enter func92,ntmps92
 go_wp2_with (first
  |(go_at_call 184;refine(ae4 A _ c w).mono ?_;rintro e w' ⟨rfl,rfl⟩)
  |(go_at_call 183;refine(aex _ c A _ ae _ (eC _ _ 0 _ _ _ (ff w _)) (f.out.aI (aq.alloc w _))).mono ?_;rintro e w' ⟨r,rfl,hr,i⟩));go_ret;exact⟨r,aa,hr.from aU,ao.trans (aq.alloc w _) i⟩
set_option maxHeartbeats 400000 in
def apx b(n v)E F w(h:gV w F b n E)(hv:db v)(k:E.length<=1099511627776):
 aD ax 304 #[ay (ab ⟨b,0,af⟩),J R v] w λe w'=>∃r,e=aA r/\pC w w' r (mK E v)/\ao w w':=by
 obtain⟨⟨fJ,cW,fA,eQ,eO,g⟩,_⟩:=h;have j:=eC _ _ 3 _ _ _ g.blk;simp at j;have hlk:=(g.mL.lookup o4 AQ Ft hv).1;obtain⟨A,c,a,d⟩:=yK (g.SE v);rw[a]at hlk;replace hlk:(qg 303 (dF (ab fA)) (J R v) au).run ax w=.ok (ad A (pred E v).length c) w:=hlk;have hlen:=Tr E v;have f:=hid d;clear a d g;go_enter func304,ntmps304
 go_wp2_with (first
  |(go_at_call 184;refine(ae4 A _ c w).mono ?_;rintro e w' ⟨rfl,rfl⟩)
  |(go_at_call 183;refine(aex _ c A _ ae _ (eC _ _ 0 _ _ _ (ff w _)) (f.out.aI (aq.alloc w _))).mono ?_;rintro e w' ⟨r,rfl,hr,i⟩));go_ret;exact⟨r,aa,hr.from aU,ao.trans (aq.alloc w _) i⟩
def run_len_map{P w fe enc}{ok:fe->Prop}{m a}(h:dZ w m enc ok a){t k e}(f:P.underlying t=ab (.map k e))ty:(afK #[t] ty #[dF (ab m)]).run P w=.ok (J R a.length) w:=by
 obtain⟨b,g,hb,_,_,c,_⟩:=h;have d:b.size=a.length:=by have:=congrArg u3 c;simpa using this
 rw[<-d];simp[afK,run_underlying f,MapKept.run_getObj_map hb,goInt,Result.andThen]
open Go.RowKit Go.Shelf Go.Sort Go.Maps Go.MapKept
open Go.WideElems (rg rg_of)
open Go.WideShapes (sorted_perm)
def ae1:aP->Int|.int _ x=>x|_=>0
abbrev DE:aP->Option (DataW Unit×List MemPlace):=λ_=>ab (.nil,[])
def ar2{P k}(hk:P.underlying k=ab (.int R)){w ms b}(h:dZ w ms encI db b):
 ∃D,w.ownsMap P k DE ms b.length D/\(Wa D).Perm (b.map (·.1))/\Jm D=b.length:=by
 obtain⟨a,n,hb,l,hz,d,o⟩:=h;have hlen:a.size=b.length:=by have:=congrArg u3 d;simpa using this
 have i:∀e∈a.toList,∃x,e.key=encI x/\db x:=λe c=>by have:(e.key,e.val)∈a.toList.map (λe=>(e.key,e.val)):=List.mem_map.2 ⟨e,c,aa⟩;grind
 have j:∀e∈a.toList,ahI P k DE e=ab (.int R (ae1 e.key),.nil):=λe c=>by obtain⟨x,hx,m⟩:=i e c;rw[hx];unfold ahI;rw[hx,encI,keyOf_int_mk hk (Nb m)];rfl
 refine⟨_,⟨a,_,hb,⟨hz,l,λe c=>⟨_,j e c⟩⟩,ae,aa⟩,?_,?_⟩
 .have h1:(a.toList.map (rg P k DE)).map (λp=>_root_.Go.intOf p.1)=b.map (·.1):=by
   have f:(a.toList.map (rg P k DE)).map (λp=>_root_.Go.intOf p.1)=(a.toList.map (λe=>(e.key,e.val))).map (λq=>ae1 q.1):=by grind[List.map_congr_left,_root_.Go.intOf,rg_of]
   rw[f,d,List.map_map];rfl
  rw[<-h1];have g:=(sorted_perm (a.toList.map (rg P k DE))).map (λp=>_root_.Go.intOf p.1);exact g
 .grind[Jm,length_sorted]
def ar1{w ms a}(h:dZ w ms encI db a):
 ∃D,w.ownsMap ax 3 DE ms a.length D/\(Wa D).Perm (a.map (·.1))/\Jm D=a.length:=ar2 Tryz.underlying3 h
def SJ a w:aD ax 381 #[dF a] w λe w'=>e=aA (dK (ek 388) #[] #[ay (ab ⟨w.heap.size,0,af⟩)])/\w.alloc (bf #[dF a] 467)=w':=by have h:q9 mr 5 ax 381 #[dF a] w λe w'=>e=aA (dK (ek 388) #[] #[ay (ab ⟨w.heap.size,0,af⟩)])/\w'=w.alloc (bf #[dF a] 467):=AnyZI.keys_in Tryz.abN mr 5 trivial aa a w;exact((sk (n:=5)).1 h).mono λ_ _ ⟨h1,b⟩=>⟨h1,b.symm⟩
def auq(e2 ms)a(hbytes:a.length*8<=140737488351232)w(hc:w.cell? ⟨e2,0,af⟩=ab (dF (ab ms)))(h:dZ w ms encI db a):
 aD ax 183 #[dK (ek 388) #[] #[ay (ab ⟨e2,0,af⟩)]] w λe w'=>∃v,e=aA v/\pC w w' v (qW (a.map (·.1)))/\ao w w':=by
 obtain⟨D,hown,d,hsz⟩:=ar1 h
 have hseq:SeqGives mr 3 ax 388 #[ay (ab ⟨e2,0,af⟩)] encZ (λb=>b.Perm (Wa D)) (Jm D) w:=
  AnyZI.keys_gives (ρ:=Tryz.abO) {Tryz.abN with} mr _ trivial aa ae e2 ms a.length D _ (uN w _ hc) hc hown;have c:=AnyZI.sorted_in Tryz.aup mr 6 trivial trivial trivial trivial aa ae (TR _) (enters_of func255 aw aa) 388 #[ay (ab ⟨e2,0,af⟩)] trivial (enters_of func388 aw aa) _ (Jm D) (by grind[dO]) ae w hseq;refine((sk (n:=6)).1 (show q9 mr 6 ax 183 _ _ _ from c)).mono λe w'=>?_;rintro⟨v,b,rfl,hS,hrow,_,hb⟩;refine⟨v,aa,?_,aq.Mo hb (cp _)⟩;have h1:qW (a.map (·.1))=qW b:=auj ((hS.trans d).symm);unfold pC;rw[h1,MT];exact hrow
open Go.RowKit Go.MapKept
def r2(seen:List Int):List (Int×aP):=seen.map (λx=>(x,aj true))
theorem ad7 seen x:ed (r2 seen) x=if x∈seen then ab (aj true)else none:=by
 unfold r2;by_cases h:x∈seen
 .rw[if_pos h];unfold ed;induction seen with
  |nil=>grind
  |cons y r a=>grind
 grind[Mg]
def at2{seen x}(h:x∉seen):jY (r2 seen) x (aj true)=r2 (seen++[x]):=by grind[r2,Ic,ad7,Mh]
def ad8 seen:(r2 seen).map (·.1)=seen:=by simp[r2,Jf]
def arY{w:aN}{base g m cap xs x}(h:w.ownsRow base 3 1 (ad (ab ⟨g,0,af⟩) (m+1) cap) (m+1) ((xs++[x]).map (J R)))(j:xs.length=m):
 w.ownsRow base 3 1 (ad (ab ⟨g,0,af⟩) m cap) m (xs.map (J R))/\w.cell? ⟨g,m,af⟩=ab (J R x)/\m+1<=cap:=by
 have hcell:=h.cells (g:=g) aa m (J R x) aG;rw[nD,kV]at hcell;rcases h.2 with⟨hv,_⟩|⟨f,e,cur,hv,hb,d,h1,a,b,c⟩;·omega
 .cases hv;refine⟨⟨aG,.inr ⟨g,_,_,aa,hb,d,ae,a,b,?_⟩⟩,hcell,h1⟩;have i:=congrArg (List.take m) c;grind
def lenOf:aP->Nat|.slice _ n _=>n|_=>0
def Md(w:aN)(b:Nat):Nat:=match w.heap[b]? with|some (.map a _)=>a.size|_=>0
def _root_.Go.Proofs.YtcmhplknoglbkaaGreat.dZ.size{w b a}(h:dZ w b encI db a):Md w b=a.length:=by obtain⟨e,c,hb,_,_,d,_⟩:=h;have:=congrArg u3 d;simp only[Md,hb];simpa using this
def asS b(n v)E F w(dU:gV w F b n E)(hv:db v)(eV:E.length<=1048576):
 aD ax 362 #[ay (ab ⟨b,0,af⟩),J R v] w λe w'=>∃r xs,e=aA r/\pC w w' r xs/\W4 E v xs/\ao w w':=by
 obtain⟨⟨fJ,cW,fA,eQ,eO,g⟩,eh,hval⟩:=dU;have lR:=g.n0;have nJ:=g.qL;have fP:=@run_makeMap ax;have I:=g.only (aq.alloc (F:=λ_=>False) w (.map #[] 0)) (λ_ _ h=>h);have yt:=dZ.made w encI db;have S:=eC _ _ 2 _ _ _ I.blk;simp at S;have hlk:=(I.out.lookup o4 AQ Ft hv).1;obtain⟨V,b1,lQ,Zq⟩:=yK (I.Ij v);rw[lQ]at hlk;replace hlk:(qg 303 (dF (ab cW)) (J R v) au).run ax (w.alloc (.map #[] 0))=.ok (ad V (succ E v).length b1) (w.alloc (.map #[] 0)):=hlk;have aoA:=IE E v;have Y:=hid Zq;have F8:=hid yt;have B:=hid (And.intro g (And.intro eh hval));have H:n.toNat*(E.length+1)<=1048576*1048577:=Nat.mul_le_mul ae ae;clear lQ Zq yt I g eh hval;go_enter func362,ntmps362;go_wp2_with fail;go_step3;go_wp2_with (go_at_call 380;refine(akT V b1 _ _ Y.out ae).mono ?_;rintro e w1 ⟨dW,rfl,hr1,hg1⟩);obtain⟨W,c1,rfl,_⟩:=yK hr1;have aiM:=hid (Co hr1 (Nat.zero_le _));have Dh:aE (∀i,(ad W (succ E v).length c1).ownBlock=ab i->w.heap.size<i):=hid (λi hi=>by have:=(hr1.lt i hi).1;simp at this;omega);have Gb:aE (aq (λi=>w.heap.size<=i) w w1):=hid ((aq.alloc _ _).trans hg1 (λ_ _ h=>h.elim));have aiq:=hid (F8.out.only hg1 (λh=>h));clear hr1 hg1 hlk S Y F8 fP;go_step3;go_wp2_with fail;obtain⟨i0,gQ,hz0,hz1,hz2⟩:=info_parts z7;have C:=hid (And.intro gQ (And.intro hz0 (And.intro hz1 hz2)));clear gQ hz0 hz1 hz2;have X:aE (∀wr,aq (λi=>w.heap.size<=i) w wr->kz wr F b n E E E fJ cW fA eQ eO):=hid λwr f=>B.out.1.only (b5.aI f) (λ_ _ h=>h)
 go_loopw [6] (λT wr=>∃seen st A m c,T=ad A m c/\aE (st.length=m)/\wr.ownsRow 0 3 1 (ad A m c) m (st.map (J R))/\(∀i,(ad A m c).ownBlock=ab i->w.heap.size<i)/\
  dZ wr w.heap.size encI db (r2 seen)/\ti E v seen st/\aq (λi=>w.heap.size<=i) w wr/\(n.toNat -seen.length)*(E.length+1)+m<=n.toNat*(E.length+1)+E.length)
  (λT wr=>(n.toNat -Md wr w.heap.size)*(E.length+1)+lenOf T);case atStart=>exact⟨[],succ E v,W,_,c1,aa,hid aa,aiM.out,Dh.out,aiq.out,ti.start E v,Gb.out,aG⟩
 case round=>
  obtain⟨seen,st,A,m,c,rfl,hlen,hrow,K,o,d,f,z⟩:=hrel;have N:=X.out wr f;rcases List.eq_nil_or_concat st with rfl|⟨L,x,rfl⟩
  .obtain rfl:m=0:=hlen.out.symm;have D:=hid (And.intro hrow (And.intro o (And.intro d f)))
   have aa3:seen.length*8<=140737488351232:=by have h1:=EJ (n:=n.toNat) d.Ae (λy Q=>by have:=Aj B.out.2.2 (d.path y (.inl Q));omega);omega
   have Dl:=hid aa3;clear hrow o d f N aa3 z H aoA K hlen
   go_wp2_with (first
    |(go_at_call 381;refine(SJ _ wr).mono ?_;rintro e w' ⟨rfl,rfl⟩)
    |(go_at_call 183;refine(auq _ _ _ (by simpa [r2]using Dl.out) _ (eC _ _ 0 _ _ _ (ff wr _)) (D.out.2.1.only (aq.alloc (F:=λ_=>False) wr _) (λh=>h))).mono ?_;rintro e w' ⟨r,rfl,hr,hg⟩));rw[Exit.noGoto_ret];go_ret;have Zw:=D.out.2.2.2;refine⟨r,_,aa,hr.from (by have:=Zw.size;simp;omega),⟨?_,λy=>?_⟩,?_⟩;·rw[ad8];refine((aji.2 ⟨MU _,(yO _).nodup_iff.2 D.out.2.2.1.Ae⟩)).imp (λh=>ae)
   .rw[ad8,(yO _).mem_iff];exact D.out.2.2.1.done y
   .exact ao.trans (b5.aI Zw) (ao.trans (aq.alloc wr _) hg)
  .simp only[List.concat_eq_append]at hrow d hlen;obtain⟨l,rfl⟩:∃l,m=l+1:=⟨L.length,by have:=hlen.out;simp at this;omega⟩;have O:aE (L.length=l):=hid (by have:=hlen.out;simp at this;omega)
   obtain⟨k,rfl⟩:∃k,A=ab ⟨k,0,af⟩:=by
    rcases hrow.2 with⟨_,h0⟩|⟨fI,kX,cur,hv,_⟩;·omega
    .grind
   obtain⟨hrow',hcell,Hh⟩:=arY hrow O.out;have hrg:=Aj B.out.2.2 (d.path x (.inr aU));have P:db x:=⟨ae,ae⟩;have p:=(o.lookup o4 VS Uf P).1;rw[ad7]at p;have uc:l+1<=1099513724928:=ae;have hgb:w.heap.size<k:=K k aa;by_cases hx:x∈seen
   .rw[if_pos hx]at p;replace p:(qg 467 (dF (ab w.heap.size)) (J R x) au).run ax wr=.ok (aj true) wr:=p;have j:=hid (And.intro hrow' (And.intro o (And.intro (d.skip hx) f)));have M:=hid z;clear hrow hrow' o d f z N hlen hx K H;go_wp2;go_roundw;case rel=>exact⟨_,_,_,_,_,aa,O,j.out.1,λi hi=>by cases hi;exact hgb,j.out.2.1,j.out.2.2.1,j.out.2.2.2,by have:=M.out;omega⟩
    case measure=>simp[lenOf]
   .rw[if_neg hx]at p;replace p:(qg 467 (dF (ab w.heap.size)) (J R x) au).run ax wr=.ok (aj au) wr:=p;have G:=d.visit hx
    have hle:seen.length+1<=n.toNat:=by have:=EJ (n:=n.toNat) G.Ae (λy Q=>by have:=Aj B.out.2.2 (G.path y (.inl Q));omega);simpa using this
    have hlx:=IE E x;have aay:=alY (n:=n.toNat) (s:=seen.length) (t:=l) ae hlx
    have aiN:aE (∀a,wr.grownBy a (ab w.heap.size)->dZ a w.heap.size encI db (jY (r2 seen) x (aj true))->∃q fG,a.cell? ⟨b,2,af⟩=ab (dF (ab cW))/\
     (qg 303 (dF (ab cW)) (J R x) au).run ax a=.ok (ad q (succ E x).length fG) a/\aE (cX a q (succ E x))/\
     aE (a.ownsRow 0 3 1 (ad (ab ⟨k,0,af⟩) l c) l (L.map (J R)))/\aE (dZ a w.heap.size encI db (r2 (seen++[x])))/\aE (aq (λi=>w.heap.size<=i) w a)):=hid λa hg2 u=>by
     have hk:aq (λi=>i=w.heap.size) wr a:=aq.of_grownBy hg2 (λi e=>aG);have kH:aq (λi=>w.heap.size<=i) w a:=f.trans hk (λi hi h=>ae);have g2:=X.out a kH;have S:=eC _ _ 2 _ _ _ g2.blk;have hl2:=(g2.out.lookup o4 AQ Ft P).1;obtain⟨q,fG,Rh,anN⟩:=yK (g2.Ij x);rw[Rh]at hl2;rw[at2 hx]at u;exact⟨q,fG,aG,hl2,hid anN,hid (nn hrow' hk (λi hi e=>by cases hi;exact absurd (show k=w.heap.size from e) ae)),hid u,hid kH⟩
    have dP:=hid hx;have bX:=hid o;have Dj:=hid hrow';have fN:=hid G;have pv:=hid f;have M:=hid z;have rq:=hid hle;have Z:=hid aay;have axc:=hid H;clear hrow hrow' o d G f z N hlen hx K H hle aay
    go_wp2_with (first
     |(at_mapUpdate;refine IS aa _ _ _ aa o4 VS bX.out (by have:=rq.out;unfold dO;simp[r2];omega) aa P aa (aj _) aa ?_;intro a u hg2 hs2;obtain⟨q,fG,gi,fQ,iM,p3,Am,Cs⟩:=aiN.out a hg2 u;clear u hg2 hs2)
     |(at_builtin;refine afe _ aa (.tmp 37) (.tmp 43) 82 aa 0 3 i0 _ 1 8 Tryz.underlying82 C.out.1 C.out.2.1 C.out.2.2.1 C.out.2.2.2 aa ae k l c (L.map (J R)) aa p3.out q (succ E x).length fG ((succ E x).map (J R)) aa (cX.cells iM.out) (S' _) (by grind[dO]) ae aU ?_;intro g3 lu U HH Hp ZR aaE));have hk3:aq (λi=>i=k) a U:=aq.of_grownBy Hp (λi e=>aG);have oY:aq (λi=>w.heap.size<=i) w U:=Cs.out.trans hk3 (λi hi h=>ae)
    have hg3:w.heap.size<g3:=by have h1:=Cs.out.size;have h2:=Am.out.lt;rcases ZR with h|h<;>omega
    have G9:dZ U w.heap.size encI db (r2 (seen++[x])):=Am.out.only hk3 (λe=>ae);have j:=hid (And.intro HH (And.intro G9 oY));have aia:=hid hg3;clear HH Hp ZR aaE hk3 oY G9 hg3 gi fQ;go_wp2;go_roundw
    case rel=>
     refine⟨_,_,_,_,_,aa,hid (by have:=O.out;simp;omega),by rw[List.map_append];exact j.out.1,λi hi=>by cases hi;exact aia.out,j.out.2.1,fN.out,j.out.2.2,?_⟩;have h1:=M.out;have h2:=Z.out;grind
    case measure=>
     have h2:=Z.out;have bD:=dZ.size j.out.2.1;have b9:=dZ.size bX.out;grind[r2,lenOf]
open Go.RowKit Go.MapKept
abbrev Valid(n:Int)(E:List (Int×Int)):Prop:=∀e∈E,(0<=e.1/\e.1<n)/\(0<=e.2/\e.2<n)/\e.1≠e.2
theorem M8(N k)(h:k<N):(du N).take (k+1)=(du N).take k++[(k:Int)]:=by grind[List.take_add_one,du]
def ES(w:aN)x t:∀j u,[x][j]?=ab u->(w.alloc (bf #[x] t)).cell? ((⟨w.heap.size,0,af⟩:Addr).add j)=ab u:=by
 intro j u h;rw[nD,kV];match j with
 |0=>
  simp at h;subst h;exact eC _ _ 0 _ _ _ (ff w _)
 |j+1=>grind
def gV.SY{w F b n E}(h:gV w F b n E):w.cell? ⟨b,0,af⟩=ab (J R n):=by obtain⟨⟨fJ,cW,fA,eQ,eO,g⟩,_⟩:=h;exact eC _ _ 0 _ _ _ g.blk
def DN A c xs x w r(h:decide (x∈xs)=r)(hx:cX w A xs)(h1:xs.length<=9223372036854775807):
 aD ax 190 #[ad A xs.length c,J R x] w λe w'=>e=aA (aj r)/\w=w':=by grind[GN]
def acj{E u x}:x∈lY E u↔(u,x)∈E:=(yO _).mem_iff.trans Ia
theorem SU{E u x}:u∈mK E x↔(u,x)∈E:=(yO _).mem_iff.trans aqT
def arL E u:(lY E u).length<=E.length:=by grind[lY,MT,IE]
def abz E u:(mK E u).length<=E.length:=by grind[mK,MT,Tr]
def adw b(n v)E F w(a:gV w F b n E)(hv:db v)(d:E.length<=1048576):
 aD ax 362 #[ay (ab ⟨b,0,af⟩),J R v] w λe w'=>∃A c xs,e=aA (ad A xs.length c)/\cX w' A xs/\W4 E v xs/\xs.length<=9223372036854775807/\ao w w':=by
 refine(asS b n v E F w a hv d).mono ?_;rintro e w' ⟨r,cq,rfl,g,hr,f⟩;obtain⟨A,c,rfl,hi,h1,h,_⟩:=g.form;exact⟨A,c,cq,aa,hi,hr,by grind[dO],f⟩
def auD{E}(b:E.Nodup)u:(succ E u).Nodup:=by unfold succ aja;rw[xW];refine(W6 _ b).imp_of_mem (λ{a c} d hc h e=>h ?_);grind
def asx{E}(b:E.Nodup)u:(pred E u).Nodup:=by unfold pred aja;rw[xW];refine(W6 _ b).imp_of_mem (λ{a c} d hc h e=>h ?_);grind
def aul{xs}(h:xs.Nodup):(qW xs).Pairwise (·<·):=
 (aji.2 ⟨MU xs,(yO xs).nodup_iff.2 h⟩).imp (λh=>ae)
def ave{N m}(h:m<N):(du N).drop m=(m:Int)::(du N).drop (m+1):=by grind[du,List.drop_eq_getElem_cons]
end G
end Go.Proofs.YtcmhplknoglbkaaGreat
