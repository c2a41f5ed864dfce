/- PARTS OF THE PROOF. -/
import Derived.Test.YtofppfoioodblaaGreatDoorTC14
set_option maxRecDepth 8000
set_option maxHeartbeats 4000000
open Go.Proofs.Tryz
namespace Go.Proofs.YtofppfoioodblaaGreatDoor
section
open Go Go.RowKit Go.Shelf Go.Extern.Stop Go.Stop Go.Extern Go.Lib
attribute [local go_sem] Oper.semAt_some zB zp
theorem zkn {W:World}{l:List zA}{g n cap:Nat}(h:Row W 294 3 (.slice (some ⟨g,0,none⟩) n cap) n (l.flatMap zg))(hl:l.length=n){k:Nat}{x:zA}(hx:l[k]?=some x):
 W.cell? ⟨g,0+k*3,none⟩=some (.int .i64 x.1.1)/\W.cell? ⟨g,0+k*3+1,none⟩=some (.int .u32 x.1.2)/\W.cell? ⟨g,0+k*3+2,none⟩=some (.string (bs x.2)):=by
 have hs:=h.src;rw [← hl] at hs;exact Zk hs hx
theorem zko {es:List MapEntry}{ws:List (MId×zA)}(h:vA idV es (ws.map λq=>(q.1,y7 q.2))):(es.zip (ws.map (·.2))).map (·.1)=es/\(es.zip (ws.map (·.2))).map (·.2)=ws.map (·.2)/\∀e∈es,∃m,(e,m)∈es.zip (ws.map (·.2))/\e.val=y7 m:=by
 induction es generalizing ws with
 |nil=>
  have:ws=[]:=by cases ws with|nil=>rfl|cons x l=>simp [vA] at h
  subst this;exact⟨rfl,rfl,λe he=>by cases he⟩
 |cons e es ih=>
  cases ws with
  |nil=>simp [vA] at h
  |cons q ws=>
   obtain⟨⟨h1,h2⟩,h3⟩:=vA.cons.1 h;obtain⟨i1,i2,i3⟩:=ih h3;refine⟨by simp only [List.map_cons,List.zip_cons_cons];rw [i1],by simp only [List.map_cons,List.zip_cons_cons];rw [i2],λe' he'=>?_⟩
   rcases List.mem_cons.1 he' with rfl|he'
   ·exact⟨q.2,List.mem_cons_self ..,h2⟩
   obtain⟨m,hm,hv⟩:=i3 e' he'
   exact⟨m,U7 _ hm,hv⟩
theorem zgq {a b:List zA}(h:a.Perm b)(hn:(b.map (·.1)).Nodup):Zf a=Zf b:=
 Zl _ _ ((vV a).trans (h.trans (vV b).symm)) (qz a) (qz b) ((((vV a).trans h).map (·.1)).nodup_iff.2 hn)
theorem zd5(cb B:Nat)(p:xr)(t:List Nat)(ow:Own)(hlen:p.waits.length<=1000000):
 Qr Fence.wide 2 prog 295 #[.pointer (some ⟨cb,0,none⟩)] (λm:zA=> #[y7 m])
  (λ(k:Nat) x=>(Zf (p.waits.map (·.2)))[k]?=some x) (λk _=>k+1) (λk=>k=p.waits.length)
  (λ_ W=>Blk W cb #[.pointer (some ⟨B,0,none⟩)] 96/\j5 B p t ow W) 0:=by
 intro lp J Jx W hJ hJx hRd hY h0;obtain⟨r0,bp,wb,db,hB,hv, -⟩:=hRd _ _ _ h0;have b1:=hv.lt;obtain⟨es,ck,a7,aw,b4,a8⟩:=hv;have bo:(es.toList.map (·.born)).Nodup:=(List.pairwise_map.2 b4).imp (λh=>by omega);obtain⟨z1,z2,z3⟩:=zko aw
 generalize hL:es.toList.zip (p.waits.map (·.2))=L at*
 have ca:(L.map (·.1.born)).Nodup:=by rw [show L.map (·.1.born)=(L.map (·.1)).map (·.born)by simp,z1];exact bo
 have ap:((p.waits.map (·.2)).map (·.1)).Nodup:=by
  have:(p.waits.map (·.2)).map (·.1)=p.waits.map (·.1):=by
   rw [List.map_map];exact List.map_congr_left (λq hq=>bp.1 q hq)
  rw [this];exact bp.2.1
 have ag:(p.waits.map (·.2)).length=p.waits.length:=by simp
 generalize p.waits.map (·.2)=ws at*
 generalize p.waits.length=n at*
 have bv:=run_range_map (P:=prog) W 228 76 294 wb es ck Tryz.underlying228 a7;unfold xJ at hB;have e0:=r0.cell;have eB:=hB.cell;clear r0 hB;replace hL:=hid hL;replace ag:=hid ag;replace ap:=hid ap;replace z1:=hid z1;replace z2:=hid z2;replace z3:=hid z3;replace a8:=hid a8;replace a7:=hid a7;have hF:Fence.wide.fn 295:=trivial;have b8:Fence.wide.round=none:=rfl;refine callsIn_of_wp func295 rfl hF ?_ b8;simp only [ntmps295,R8,Nat.reduceAdd,Nat.reduceSub]
 gi_wp2
 clear bv e0 eB
 gi_loopw [3] (λp3 wr=>∃(acc:List zA)(aa:Array Nat),wr.heap[W.heap.size]?=some (.mapIter (some wb) ck aa ck)/\Below W.heap.size W wr/\(acc++xo L aa).Perm ws/\Row wr 294 3 p3 acc.length (acc.flatMap zg)/\(∀g,p3.ownBlock=some g->W.heap.size<g)) (λ_ wr=>(leftOf es (wr.iterSeen W.heap.size)).size)
 case atStart=>exact⟨[],#[],World.alloc_heap_new _ _,(N2 _ _).alloc (N0 _) _,by rw [zd3,z2.out];exact List.Perm.refl _,z7 _ _ _,by simp [Value.ownBlock]⟩
 case round=>
  obtain⟨acc,aa,a9,ax,ac,af,ae⟩:=hrel;have hb:wr.heap[wb]?=some (.map es ck):=(ax.block wb b1).trans a7.out;have b7:=(N5.1 a9).1;have br:=run_next_at (P:=prog) wr 0 W.heap.size wb ck ck aa es ck a9 hb a8.out (N0 _)
  rcases br with⟨h0',ad⟩|⟨e,he,w1,hw1,ad⟩
  ·have ar:∀ty,(Instr.next (.pointer (some ⟨W.heap.size,0,none⟩)) false ty).run prog wr=_:=λ_=>ad
   clear ad;have bb:=all_seen es aa h0';have bz:xo L aa=[]:=zd4 L aa (λq hq=>bb q.1 (by rw [← z1.out];exact List.mem_map.2 ⟨q,hq,rfl⟩));rw [bz,List.append_nil] at ac;have az:=zgq ac ap.out;have be:acc.length=n:=ac.length_eq.trans ag.out;have a6:(acc.map (·.1)).Nodup:=(ac.map (·.1)).nodup_iff.2 ap.out;have bu:(Zf acc).length=n:=(vV acc).length_eq.trans be;rw [← az] at hY;subst be
   rcases af.form with⟨rfl,ha0, -⟩|⟨g,cap,rfl,hc1,hc2⟩
   ·obtain rfl:acc=[]:=N9 ha0
    have bc:J 0 (λ_=>False) wr:=hJ _ _ _ _ _ h0 (Mod.of_below _ ax) (λk hk=>.inl hk);clear af ae;replace ar:=hid ar;replace ar:=ar.out
    gi_wp2_with fail
    refine(callsIn_wide.2 (ziy _ _)).mono ?_;rintro e w2⟨rfl,b6⟩;obtain rfl:=b6.symm;clear ar
    gi_wp2
    gi_loopw [25] (λp25 ws=>p25=.int .i64 0/\ws=wr) (λ_ _=>0)
    case atStart=>exact⟨rfl,rfl⟩
    case round=>
     obtain⟨rfl,rfl⟩:=hrel
     gi_wp2
     go_end0
     exact⟨⟨_,rfl⟩,.inl ⟨0,_,rfl,bc⟩⟩
   have ai:=zkl g cap acc a6 (by omega) wr af
   have cc:=ae g rfl;have cd:=af.lt (g:=g) rfl;replace ai:=hid ai;clear af ae
   gi_wp2_with fail
   refine(callsIn_wide.2 ai.out).mono ?_;rintro e W1⟨rfl,ay,ao⟩;have ba:Below W.heap.size W W1:=ax.trans (ay.to_below (by omega) (λk _ e=>by omega));have bc:J 0 (λk=>k=g) W1:=hJ _ _ _ _ _ h0 (Mod.of_below _ ba) (λk hk=>by subst hk;right;have:=ay.size;omega);clear ar ai;replace ao:=hid ao
   gi_wp2
   gi_loopw [25] (λp25 ws'=>∃(k:Nat)(X:Nat->Prop),p25=.int .i64 k/\k<=acc.length/\J k X ws'/\X g/\Row ws' 294 3 (.slice (some ⟨g,0,none⟩) acc.length cap) acc.length ((Zf acc).flatMap zg)) (λp25 _=>acc.length - (intOf p25).toNat)
   case atStart=>exact⟨0,_,rfl,Nat.zero_le _,bc,rfl,ao.out⟩
   case round=>
    obtain⟨k,X,rfl,hk,bg,bj,hR⟩:=hrel
    by_cases hlk:k<acc.length
    ·obtain⟨x,hx⟩:∃x,(Zf acc)[k]?=some x:=⟨_,N3 (by omega)⟩
     obtain⟨c0,c1,c2⟩:=zkn hR bu hx;have bi:=hY k x _ _ (hJ.alloc (.cells (zg x).toArray 294) bg) hx;have bw:=hR.lt (g:=g) rfl;obtain⟨⟨xi,xc⟩,xd⟩:=x;simp only [zg] at c0 c1 c2 bi;obtain⟨fn,tmps,assign,body,hy,bk⟩:=bi;unfold y7 at hy;simp only [Nat.zero_add] at c0 c1 c2;replace hx:=hid hx;replace hR:=hid hR
     gi_wp2
     refine bk.mono ?_;rintro e W'(⟨rfl,bt,b3⟩|⟨rfl,b9⟩)
     ·clear c0 c1 c2 bk hy
      have b2:Row W' 294 3 (.slice (some ⟨g,0,none⟩) acc.length cap) acc.length ((Zf acc).flatMap zg):=hR.out.kept (λg' hg'=>by
       cases hg'
       exact(b3.2 g (.inl bj) (by simp;omega)).trans (U4 _ _ _ bw))
      gi_wp2
      go_roundw
      case rel=>exact⟨k+1,_,by go_num,by omega,bt,.inl bj,b2⟩
      case measure=>simp [intOf];omega
     gi_wp2
     refine bodyPost_ret (results_none rfl _ _ _) rfl ?_;exact⟨⟨_,rfl⟩,.inr ⟨_,b9⟩⟩
    obtain hkn:k=acc.length:=by omega
    replace hkn:=hid hkn;obtain rfl:=hkn.out;replace hR:=hid hR
    gi_wp2
    go_end0
    first|exact⟨⟨_,rfl⟩,.inl ⟨_,X,rfl,bg⟩⟩|exact⟨⟨_,rfl⟩,.inl ⟨X,bg⟩⟩
  obtain⟨bn,bh⟩:=mem_left he
  obtain⟨m,b5,aq⟩:=z3.out e bn;have aj:=XJ e m L aa ca b5 bh;have bf:=left_shrinks es aa e he;obtain⟨W2,a0⟩:∃W2,W2=ChangeMaps.setBlock w1 W.heap.size (.mapIter (some wb) ck (aa.push e.born) ck):=⟨_,rfl⟩;have a3:Below wr.heap.size wr w1:=by rcases hw1 with rfl|rfl;exact N2 _ _;exact zq (N2 _ _)
  have a2:w1.heap.size=wr.heap.size:=by rcases hw1 with rfl|rfl<;>rfl
  have bd:Mod (λk=>k=W.heap.size) wr W2:=by rw [a0];exact(Mod.of_below (λk=>k=W.heap.size) a3).thenPut rfl _
  have a5:W2.heap[W.heap.size]?=some (.mapIter (some wb) ck (aa.push e.born) ck):=by rw [a0];exact World.putObj_heap_same (w:=w1) (by omega)
  have a1:W2.heap.size=wr.heap.size:=by rw [a0];show(w1.heap.setIfInBounds _ _).size=_;simp [a2]
  rw [← a0,aq] at ad;clear a0 a3 a2 hw1;have ar:∀ty,(Instr.next (.pointer (some ⟨W.heap.size,0,none⟩)) false ty).run prog wr=_:=λ_=>ad
  clear ad;have bq:W2.heap[wb]?=some (.map es ck):=(bd.block wb (by have:=ax.size;omega) (by omega)).trans hb;have bm:=run_entry_at (P:=prog) W2 W.heap.size wb ck aa es ck e a5 bq bn bo;rw [aq] at bm;have am:=af.mod bd (λg hg e=>by have:=ae g hg;omega);have al:Below W.heap.size W W2:=ax.trans (bd.to_below ax.size (λk _ e=>by omega))
  have be:acc.length+1<=n:=by
   have h5:=ac.length_eq;have h6:=aj.length_eq;rw [N1,h6,List.length_cons,ag.out] at h5;omega
  have an:((acc++ [m])++xo L (aa.push e.born)).Perm ws:=by
   refine List.Perm.trans ?_ ac;rw [List.append_assoc];exact(aj.symm).append_left acc
  have au:(leftOf es (aa.push e.born)).size<(leftOf es (wr.iterSeen W.heap.size)).size:=by
   have:wr.iterSeen W.heap.size=aa:=by unfold World.iterSeen;rw [a9]
   rw [this];exact bf
  obtain⟨⟨mi,mc⟩,md⟩:=m;obtain⟨va,vn,vc,rfl⟩:=af.shape;have b0:(W2.alloc (.cells #[.int .i64 mi,.int .u32 mc,.string (bs md)] 294)).heap.size=W2.heap.size+1:=by simp
  obtain⟨v',W4,ad,ah,bl,ak⟩:=zQ zmD ((am.below ((N2 _ _).alloc (N0 _) (.cells #[.int .i64 mi,.int .u32 mc,.string (bs md)] 294))).below ((N2 _ _).alloc (N0 _) (.cells #[.int .i64 mi,.int .u32 mc,.string (bs md)] 294))) (jP (n:=1) (size:=3) (cap:=1) (Blk.new (w:=W2.alloc (.cells #[.int .i64 mi,.int .u32 mc,.string (bs md)] 294)) (cs:=#[.int .i64 mi,.int .u32 mc,.string (bs md)]) (t:=294) rfl) rfl (N0 1)) (jv [((mi,mc),md)]) (by omega) 436;rw [b0] at ad;obtain⟨sa,sm,sc,rfl⟩:=ah.shape;unfold y7 at ar bm;replace af:=hid af;replace am:=hid am;replace ah:=hid ah;replace ae:=hid ae;replace ak:=hid ak;replace an:=hid an;replace aj:=hid aj;replace ac:=hid ac;replace au:=hid au;replace a1:=hid a1;replace ad:=hid ad;replace aq:=hid aq
  gi_wp2_with (gi_at_builtin
               refine j1 rfl _ _ _ rfl rfl rfl ad.out ?_)
  have a4:W4.heap[W.heap.size]?=some (.mapIter (some wb) ck (aa.push e.born) ck):=
   (bl.block _ (by simp;have:=a1.out;omega) (λe=>by have:=ae.out _ e.symm;omega)).trans ((U4 _ _ _ (by simp;have:=a1.out;omega)).trans ((U4 _ _ _ (by have:=a1.out;omega)).trans a5))
  go_roundw
  case rel=>
   refine⟨acc++ [((mi,mc),md)],aa.push e.born,a4,?_,an.out,?_,λg hg=>?_⟩
   ·exact(((al.alloc al.size _).alloc (by simp;have:=al.size;omega) _)).grown bl (by simp;have:=al.size;omega) (λj hj=>by have:=ae.out j hj;omega)
   ·rw [N1,U2,U5];exact ah.out
   have h5:=ak.out
   rw [hg] at h5
   rcases h5 with h|h
   ·exact ae.out g h.symm
   simp at h;have:=al.size;omega
  case measure=>
   have:W4.iterSeen W.heap.size=aa.push e.born:=by unfold World.iterSeen;rw [a4]
   rw [this];exact au.out
end
open Go Go.RowKit Go.Shelf Go.Extern.Stop Go.Stop Go.Extern
attribute [local go_sem] Oper.semAt_some zB zp
structure XK(L:List zA)(mb lb:Nat)(most:Nat)(W0:World)(k:Nat)(v:Value)(X:Nat->Prop)(W:World):Prop where
 fr:Fr (λk=>k=lb) W0 X W
 kl:Blk W lb #[v] 42
 row:Row W 78 3 v (L.take k).length ((L.take k).flatMap zg)
 new:∀g,v.ownBlock=some g->W0.heap.size<=g/\¬X g
theorem XK.stab {L:List zA}{mb lb most:Nat}{W0:World}{k:Nat}{v:Value}{X X':Nat->Prop}{W W':World}(h:XK L mb lb most W0 k v X W)(hl:lb<W0.heap.size)(hm:Mod X W W')(hx:∀k,X' k->X k∨(W.heap.size<=k/\k<W'.heap.size)):XK L mb lb most W0 k v X' W' where
 fr:=h.fr.step hm hx
 kl:=h.kl.kept (h.fr.block hm hl)
 row:=h.row.mod hm (λg hg=>(h.new g hg).2)
 new:=λg hg=>⟨(h.new g hg).1,λhX=>by
  rcases hx g hX with h1|h1
  ·exact(h.new g hg).2 h1
  have:=h.row.lt hg;omega⟩
def XL(l:List zA)(w:World)(e:Ending)(w':World):Prop:=
 ∃v,e=.returned (.tuple #[v,.int .i64 0])/\Below w.heap.size w w'/\Row w' 78 3 v l.length (l.flatMap zg)/\∀g,v.ownBlock=some g->w.heap.size<=g
theorem zd6(B:Nat)(p:xr)(t:List Nat)(ow:Own)(most:Nat)(h1:1<=most)(h2:most<=64)(w:World)(h:j5 B p t ow w):
 Calls prog 187 #[.pointer (some ⟨B,0,none⟩),.int .i64 most] w (XL (ZI p most) w):=by
 have a1:p.waits.length<=1000000:=by have:=h.1.2.2;omega
 have au:=λcb=>zd5 cb B p t ow a1
 have ar:ZI p most=(Zf (p.waits.map (·.2))).take most:=rfl;have an:(Zf (p.waits.map (·.2))).length=p.waits.length:=by rw [(vV _).length_eq];simp
 rw [ar];have h0:=h;obtain⟨bp,wb,db,hB, -⟩:=h;have ah:=λW hW=>Yu B wb db W hW
 unfold xJ at hB ah
 generalize Zf (p.waits.map (·.2))=L at*
 have ad:∀v W',Below w.heap.size w W'->Row W' 78 3 v (L.take most).length ((L.take most).flatMap zg)->(∀g,v.ownBlock=some g->w.heap.size<=g)->XL (L.take most) w (.returned (.tuple #[v,.int .i64 0])) W':=λv W' a b c=>⟨v,rfl,a,b,c⟩
 have t1:decide ((most:Int)<1)=false:=by simp;omega
 have t2:decide ((64:Int)<(most:Int))=false:=by simp;omega
 replace ad:=hid ad;replace au:=hid au;replace ah:=hid ah;replace h0:=hid h0;replace ar:=hid ar;replace an:=hid an;replace hB:=hid hB;refine zm func187 rfl ?_;simp only [ntmps187,R8,Nat.reduceAdd,Nat.reduceSub];go_wp2;go_step3;go_wp2_with fail
 refine(ah.out _ (hB.out.alloc _)).mono ?_;rintro e w1⟨rfl,bf⟩;obtain rfl:=bf.symm;go_wp2;go_step3;go_wp2_with fail
 refine(zgp B _).mono ?_;rintro e w2⟨rfl,rfl⟩;go_wp2_with fail
 obtain⟨W0,ak⟩:∃W0,W0=(((w.alloc (.cells #[.int .i64 most] 3)).alloc (.cells #[.slice none 0 0] 42)).alloc (.cells #[.pointer (some ⟨B,0,none⟩)] 96)):=⟨_,rfl⟩;have bo:W0.heap.size=w.heap.size+3:=by rw [ak];simp
 have aq:Below w.heap.size w W0:=by rw [ak];exact pbx
 have ba:Blk W0 w.heap.size #[.int .i64 most] 3:=by rw [ak];exact bkx
 have be:Blk W0 (w.heap.size+1) #[.slice none 0 0] 42:=by rw [ak];exact bkx
 have a7:Blk W0 (w.heap.size+1+1) #[.pointer (some ⟨B,0,none⟩)] 96:=by rw [ak];exact bkx
 rw [← ak];clear ak
 refine yJ (gf:=295) (lb:=#[.pointer (some ⟨w.heap.size+1+1,0,none⟩)]) rfl (enters_of func295 (by kernel_rfl) rfl)
  (au.out (w.heap.size+1+1)) (λ_=>rfl)
  (λk X W=>k<=most/\k<=L.length/\∃v,XK L w.heap.size (w.heap.size+1) most W0 k v X W)
  (λc X W=>c=.exit 0/\∃v,XK L w.heap.size (w.heap.size+1) most W0 most v X W)
  (λk X X' W W' h hm hx=>by obtain⟨a,b,v,h3⟩:=h;exact⟨a,b,v,h3.stab (by omega) hm hx⟩)
  (λc _ X X' W W' h hm hx=>by obtain⟨hc,v,h3⟩:=h;exact⟨hc,v,h3.stab (by omega) hm hx⟩)
  (λk X W h=>by obtain⟨a,b,v,h3⟩:=h;exact⟨a7.mod h3.fr.2 (by omega),(j5.loc B p t).below h0.out (aq.trans (h3.fr.below (by omega) (λk hk=>by omega)))⟩)
  (λk X W h=>by obtain⟨a,b,v,h3⟩:=h;exact⟨by have:=h3.fr.2.size;omega,λk hk=>(h3.fr.1 k hk).2⟩)
  ⟨Nat.zero_le _,Nat.zero_le _,.slice none 0 0,Fr.refl _ _,be,z7 _ _ _,by simp [Value.ownBlock]⟩
  7 78 (λx=> #[.int .i64 x.1.1,.int .u32 x.1.2,.string (bs x.2)]) ?assign ?body ?done ?stop
 case assign=>
  intro l' x W K hK;rw [zW] at hK⊢;unfold y7 at hK⊢
  gi_wp2
  exact hK
 case body=>
  rintro l' k x cb X X1 W1 W bm⟨bd,bc,v,hI⟩ am bg bi bq kx br _;obtain⟨ag,kl,aa,ac⟩:=hI;obtain⟨⟨xi,xc⟩,xd⟩:=x;have km:=ba.mod ag.2 (by omega);have em:=km.cell;have lm:=km.lt;have el:=kl.cell;have ll:=kl.lt;have bb:=(N6.1 am).1;have ax:(L.take k).length=k:=by rw [N7];omega
  rw [zW];unfold y7;simp only at kx;rw [ax] at aa
  by_cases hkq:k=most
  ·subst hkq
   have t3:((k:Int)==(k:Int))=true:=by simp
   obtain⟨va,vc,rfl⟩:=aa.src.shape;replace aa:=hid aa;replace ac:=hid ac;replace am:=hid am
   gi_wp2
   exact⟨⟨rfl,_,ag,kl,by rw [ax];exact aa.out,ac.out⟩,jJ.refl _ _⟩
  have t3:((k:Int)==(most:Int))=false:=by simp;omega
  obtain⟨va,vc,rfl⟩:=aa.src.shape;have aj:(L.take (k+1))=L.take k++ [((xi,xc),xd)]:=by rw [List.take_add_one,am];rfl
  have ex:=kx.cell;have bn:=ag.2.size;have a0:∀g,(Value.slice va k vc).ownBlock=some g->g≠w.heap.size+1:=λg hg=>by have:=(ac g hg).1;omega
  have bk:=kx.lt;obtain⟨v',W3,al,ae,a3,ai⟩:=zQ zbD (aa.below ((N2 _ _).alloc (N0 _) (.cells #[.int .i64 xi,.int .u32 xc,.string (bs xd)] 78))) (jP (n:=1) (size:=3) (cap:=1) (Blk.new (w:=W) (cs:=#[.int .i64 xi,.int .u32 xc,.string (bs xd)]) (t:=78) rfl) rfl (N0 1)) (jv [((xi,xc),xd)]) (by omega) 42;have ao:=(kl.alloc (.cells #[.int .i64 xi,.int .u32 xc,.string (bs xd)] 78)).kept (a3.block _ (by simp;omega) (λe=>a0 _ e.symm rfl));have bl:=ao.frozen;have bj:=ao.cell;have bh:=ao.lt;obtain⟨sa,sm,sc,rfl⟩:=ae.shape;replace aa:=hid aa;replace ae:=hid ae;replace ai:=hid ai;replace ac:=hid ac;replace a0:=hid a0;replace am:=hid am;replace aj:=hid aj;replace al:=hid al
  gi_wp2_with (gi_at_builtin
               refine j1 rfl _ _ _ rfl rfl rfl al.out ?_)
  have a2:Mod (λk'=>k'=w.heap.size+1∨(Value.slice va k vc).ownBlock=some k') W (W3.setCell ⟨w.heap.size+1,0,none⟩ (.slice sa sm sc)):=
   (((Mod.refl (λk'=>k'=w.heap.size+1∨(Value.slice va k vc).ownBlock=some k') W).thenAlloc (.cells #[.int .i64 xi,.int .u32 xc,.string (bs xd)] 78)).trans (Mod.grown (X:=λk'=>k'=w.heap.size+1∨(Value.slice va k vc).ownBlock=some k') a3 (λk h=>.inr h)) (λ_ _ e=>e) (λ_ _ e=>e)).thenSet (p:=⟨w.heap.size+1,0,none⟩) (.inl rfl) _
  have a5:∀g,(Value.slice sa sm sc).ownBlock=some g->W0.heap.size<=g/\¬X g:=λg hg=>by
   have:=ai.out;rw [hg] at this
   rcases this with h|h
   ·exact ac.out g h.symm
   simp at h;subst h;exact⟨by omega,λhX=>by have:=(ag.1 _ hX).2;omega⟩
  refine⟨⟨by omega,by omega,.slice sa sm sc,ag.mod a2 (λk hk h=>?_),ao.set (o:=0) _,?_,a5⟩,jJ.of_mod a2 (λk hk hX h=>?_)⟩
  ·rcases h with h|h
   ·exact h
   have:=(ac.out k h).1;omega
  ·rw [aj.out,N1,ax,U2,U5]
   refine Row.kept (w:=W3) ae.out (λg hg=>?_);have:=(a5 g hg).1;exact N4 _ _ _ _ (show g≠w.heap.size+1 by omega)
  have:=ag.1 k hX
  rcases h with h|h
  ·omega
  exact(ac.out k h).2 hX
 case done=>
  rintro D k X W hD a6 az⟨bd,bc,v,hI⟩ af;have a4:k=p.waits.length:=az;have a9:L.take most=L.take k:=by rw [List.take_of_length_le (by have:=an.out;omega),List.take_of_length_le (by have:=an.out;omega)]
  obtain⟨ag,kl,aa,ac⟩:=hI;rw [← a9] at aa;have aw:Below w.heap.size w W:=aq.trans (ag.below (by omega) (λk hk=>by omega));have el:=kl.cell;have ap:∀g,v.ownBlock=some g->g≠D:=λg hg e=>by subst e;obtain⟨a8,hc⟩:=aa.type hg;rw [af] at hc;cases hc
  have ay:∀g,v.ownBlock=some g->w.heap.size<=g:=λg hg=>by have:=(ac g hg).1;omega
  replace aa:=hid aa;clear ac;go_wp2;rw [Exit.noGoto_ret];exact jb (D:=D) (v:=.tuple #[v,.int .i64 0]) af (by simp [results,Tryz.results187,go_sem]) (ad.out _ _ (zM aw (by omega) _) (aa.out.kept (λg hg=>U1 (ap g hg))) ay)
 case stop=>
  rintro D c X W hD a6⟨rfl,v,hI⟩ af;obtain⟨ag,kl,aa,ac⟩:=hI;have aw:Below w.heap.size w W:=aq.trans (ag.below (by omega) (λk hk=>by omega));have el:=kl.cell;have ap:∀g,v.ownBlock=some g->g≠D:=λg hg e=>by subst e;obtain⟨a8,hc⟩:=aa.type hg;rw [af] at hc;cases hc
  have ay:∀g,v.ownBlock=some g->w.heap.size<=g:=λg hg=>by have:=(ac g hg).1;omega
  replace aa:=hid aa;clear ac;go_wp2;rw [Exit.noGoto_ret];exact jb (D:=D) (v:=.tuple #[v,.int .i64 0]) af (by simp [results,Tryz.results187,go_sem]) (ad.out _ _ (zM aw (by omega) _) (aa.out.kept (λg hg=>U1 (ap g hg))) ay)
def y6(v:jw):Value:=.agg #[.int .u64 (v.1:Nat),.int .u64 (v.2.1:Nat),.string (bs v.2.2)]
theorem ziz(x:List UInt8):(bs x).toList.isEmpty=x.isEmpty:=by rw [yQ]
theorem XM(b:Nat)(x:List UInt8)(w:World)(h0:w.cell? ⟨b,0,none⟩=some (.string (bs x))):
 Calls prog 251 #[.slice (some ⟨b,0,none⟩) 1 1] w λe w'=>e=.returned (.bool (decide (x.length<=4000)))/\w'=w:=by
 have aa:=zL x
 go_enter func251,ntmps251
 go_wp2
 go_loop [7] (λp7=>∃k:Nat,k<=1/\p7=.int .i64 k/\(k=1->x.length<=4000)) (λp7=>1 - (intOf p7).toNat)
 case atStart=>exact⟨0,by omega,rfl,by simp⟩
 case round=>
  obtain⟨k,hk,rfl,hx⟩:=hrel
  rcases(by omega:k=0∨k=1)with rfl|rfl
  ·by_cases h:4000<x.length
   ·have t0:decide ((4000:Int)<((bs x).size:Int))=true:=by rw [aa];simp;omega
    have hd:decide (x.length<=4000)=false:=by simp;omega
    replace aa:=hid aa;go_wp2;go_ret
    exact⟨rfl,rfl⟩
   have t0:decide ((4000:Int)<((bs x).size:Int))=false:=by rw [aa];simp;omega
   replace aa:=hid aa;go_wp2
   go_round
   case rel=>exact⟨1,by omega,by go_num,by omega⟩
   case measure=>simp [intOf]
  have hd:decide (x.length<=4000)=true:=by simp;omega
  go_wp2;go_ret
  exact⟨rfl,rfl⟩
theorem Y3(v:jw)(w:World):Calls prog 303 #[y6 v] w λe w'=>e=.returned (.bool (yn v))/\Below w.heap.size w w':=by
 obtain⟨p,b,x⟩:=v;have aa:=λbb W h=>XM bb x W h
 have tq:=ziz x;unfold y6 yn;simp only
 generalize decide (x.length<=4000)=fx at*
 replace aa:=hid aa
 by_cases hb0:b=0
 ·subst hb0
  have t0:(((0:Nat):Int)==0)=true:=rfl;have t1:decide (((0:Nat):Int)<=(p:Int))=true:=by simp
  have e1:decide (0<=p)=true:=by simp
  rw [e1,show decide ((0:Nat)=0)=true from rfl]
  cases hx:x.isEmpty
  ·rw [hx] at tq
   replace hx:=hid hx
   go_enter func303,ntmps303
   go_wp2;go_ret
   exact⟨rfl,pbx⟩
  rw [hx] at tq
  replace hx:=hid hx
  go_enter func303,ntmps303
  go_wp2_with fail
  refine(aa.out _ _ (by simp)).mono ?_;rintro e w1⟨rfl,rfl⟩;go_wp2;go_ret
  exact⟨by simp,pbx⟩
 have t0:((b:Int)==0)=false:=by simpa using hb0
 rw [show decide (b=0)=false by simpa using hb0]
 by_cases hbp:b<=p
 ·have t1:decide ((b:Int)<=(p:Int))=true:=by simpa using hbp
  rw [show decide (b<=p)=true by simpa using hbp];replace hbp:=hid hbp;replace hb0:=hid hb0
  go_enter func303,ntmps303
  go_wp2_with fail
  refine(aa.out _ _ (by simp)).mono ?_;rintro e w1⟨rfl,rfl⟩;go_wp2;go_ret
  exact⟨by simp,pbx⟩
 have t1:decide ((b:Int)<=(p:Int))=false:=by simpa using hbp
 rw [show decide (b<=p)=false by simpa using hbp];replace hbp:=hid hbp;replace hb0:=hid hb0
 go_enter func303,ntmps303
 go_wp2;go_ret
 exact⟨by simp,pbx⟩
def zaX(r:jw×Int):Value:=.tuple #[y6 r.1,.int .i64 r.2]
theorem zcm(v:jw)(b:Nat)(w:World):Calls prog 302 #[y6 v,.int .u64 b] w λe w'=>e=.returned (zaX (yu v b))/\Below w.heap.size w w':=by
 have hr:=λW=>Y3 v W
 have hp:yu v b=if yn v=false∨b<1 then((0,0,[]),2)else if b<=v.1 then((0,0,[]),80)else((b,v.2),0):=rfl
 generalize yn v=ok at*
 obtain⟨p,q,x⟩:=v;unfold zaX y6 at*;simp only at hr hp⊢;replace hr:=hid hr
 by_cases hok:ok=false∨b<1
 ·rw [if_pos hok] at hp
  rw [hp];replace hp:=hid hp
  cases ok
  ·clear hok
   go_enter func302,ntmps302
   go_wp2_with fail
   refine(hr.out _).mono ?_;rintro e w1⟨rfl,ac⟩;have k1:Blk w1 (w.heap.size+1) #[.int .u64 0,.int .u64 0,.string ⟨#[]⟩] 317:=Blk.call (bkx) ac;have k0:Blk w1 w.heap.size #[.int .u64 p,.int .u64 q,.string (bs x)] 317:=Blk.call (bkx) ac;have c1:=k1.cell;have f1:=k1.frozen;have l1:=k1.lt;have c0:=k0.cell;have f0:=k0.frozen;have l0:=k0.lt;have ad:Below w.heap.size w w1:=pbx;have kr:=k1;have aa:=ad;have rr:=(((kr.set (o:=0) (.int .u64 0)).set (o:=1) (.int .u64 0)).set (o:=2) (.string ⟨#[]⟩)).cell;go_wp2;exact bodyPost_ret (v:=.tuple #[.agg #[.int .u64 0,.int .u64 0,.string ⟨#[]⟩],.int .i64 2]) (by simp [results,Tryz.results302,go_sem,rr]) rfl ⟨by first|rfl|simp,zn (zn (zn aa (by simp) _) (by simp) _) (by simp) _⟩
  have t1:decide ((b:Int)<1)=true:=by rcases hok with h|h;cases h;simp;omega
  replace hok:=hid hok
  go_enter func302,ntmps302
  go_wp2_with fail
  refine(hr.out _).mono ?_;rintro e w1⟨rfl,ac⟩;have k1:Blk w1 (w.heap.size+1) #[.int .u64 0,.int .u64 0,.string ⟨#[]⟩] 317:=Blk.call (bkx) ac;have k0:Blk w1 w.heap.size #[.int .u64 p,.int .u64 q,.string (bs x)] 317:=Blk.call (bkx) ac;have c1:=k1.cell;have f1:=k1.frozen;have l1:=k1.lt;have c0:=k0.cell;have f0:=k0.frozen;have l0:=k0.lt;have ad:Below w.heap.size w w1:=pbx;have kr:=k1;have aa:=ad;have rr:=(((kr.set (o:=0) (.int .u64 0)).set (o:=1) (.int .u64 0)).set (o:=2) (.string ⟨#[]⟩)).cell;go_wp2;exact bodyPost_ret (v:=.tuple #[.agg #[.int .u64 0,.int .u64 0,.string ⟨#[]⟩],.int .i64 2]) (by simp [results,Tryz.results302,go_sem,rr]) rfl ⟨by first|rfl|simp,zn (zn (zn aa (by simp) _) (by simp) _) (by simp) _⟩
 rw [if_neg hok] at hp
 obtain rfl:ok=true:=by cases ok<;>simp_all
 have t1:decide ((b:Int)<1)=false:=by simp;omega
 replace hok:=hid hok
 by_cases hbp:b<=p
 ·rw [if_pos hbp] at hp
  rw [hp];have t2:decide ((b:Int)<=(p:Int))=true:=by simpa using hbp
  replace hp:=hid hp;replace hbp:=hid hbp
  go_enter func302,ntmps302
  go_wp2_with fail
  refine(hr.out _).mono ?_;rintro e w1⟨rfl,ac⟩;have k1:Blk w1 (w.heap.size+1) #[.int .u64 0,.int .u64 0,.string ⟨#[]⟩] 317:=Blk.call (bkx) ac;have k0:Blk w1 w.heap.size #[.int .u64 p,.int .u64 q,.string (bs x)] 317:=Blk.call (bkx) ac;have c1:=k1.cell;have f1:=k1.frozen;have l1:=k1.lt;have c0:=k0.cell;have f0:=k0.frozen;have l0:=k0.lt;have ad:Below w.heap.size w w1:=pbx;have kr:=k1;have aa:=ad;have rr:=(((kr.set (o:=0) (.int .u64 0)).set (o:=1) (.int .u64 0)).set (o:=2) (.string ⟨#[]⟩)).cell;go_wp2;exact bodyPost_ret (v:=.tuple #[.agg #[.int .u64 0,.int .u64 0,.string ⟨#[]⟩],.int .i64 80]) (by simp [results,Tryz.results302,go_sem,rr]) rfl ⟨by first|rfl|simp,zn (zn (zn aa (by simp) _) (by simp) _) (by simp) _⟩
 rw [if_neg hbp] at hp
 rw [hp];have t2:decide ((b:Int)<=(p:Int))=false:=by simpa using hbp
 replace hp:=hid hp;replace hbp:=hid hbp
 go_enter func302,ntmps302
 go_wp2_with fail
 refine(hr.out _).mono ?_;rintro e w1⟨rfl,ac⟩;have k1:Blk w1 (w.heap.size+1) #[.int .u64 0,.int .u64 0,.string ⟨#[]⟩] 317:=Blk.call (bkx) ac;have k0:Blk w1 w.heap.size #[.int .u64 p,.int .u64 q,.string (bs x)] 317:=Blk.call (bkx) ac;have c1:=k1.cell;have f1:=k1.frozen;have l1:=k1.lt;have c0:=k0.cell;have f0:=k0.frozen;have l0:=k0.lt;have ad:Below w.heap.size w w1:=pbx;have kr:=k1.other (p:=⟨w.heap.size,0,none⟩) (by simp) (.int .u64 b);have kq:=(k0.set (o:=0) (.int .u64 b)).cell;have aa:=zn ad (p:=⟨w.heap.size,0,none⟩) (N0 _) (.int .u64 b);have rr:=(((kr.set (o:=0) (.int .u64 b)).set (o:=1) (.int .u64 q)).set (o:=2) (.string (bs<|x))).cell;go_wp2;exact bodyPost_ret (v:=.tuple #[.agg #[.int .u64 b,.int .u64 q,.string (bs<|x)],.int .i64 0]) (by simp [results,Tryz.results302,go_sem,rr]) rfl ⟨by first|rfl|simp,zn (zn (zn aa (by simp) _) (by simp) _) (by simp) _⟩
theorem ziA(v:jw)(b:Nat)(y:List UInt8)(w:World):Calls prog 300 #[y6 v,.int .u64 b,.string (bs y)] w λe w'=>e=.returned (zaX (YV v b y))/\Below w.heap.size w w':=by
 have hr:=λW=>Y3 v W
 have aa:=λbb W h=>XM bb y W h
 have hp:YV v b y=if yn v=false∨b<1∨4000<y.length then((0,0,[]),2)else if b<v.1 then((0,0,[]),80)else((b,b,y),0):=rfl
 generalize yn v=ok at*
 obtain⟨p,q,x⟩:=v;unfold zaX y6 at*;simp only at hr hp⊢;have af:decide (y.length<=4000)= !decide (4000<y.length):=by by_cases h:y.length<=4000<;>simp [h] <;>omega
 rw [af] at aa;replace hr:=hid hr
 cases ok
 ·rw [if_pos (.inl rfl)] at hp
  rw [hp];replace hp:=hid hp;replace aa:=hid aa
  go_enter func300,ntmps300
  go_wp2_with fail
  refine(hr.out _).mono ?_;rintro e w1⟨rfl,ac⟩;have k1:Blk w1 (w.heap.size+1) #[.int .u64 0,.int .u64 0,.string ⟨#[]⟩] 317:=Blk.call (bkx) ac;have k0:Blk w1 w.heap.size #[.int .u64 p,.int .u64 q,.string (bs x)] 317:=Blk.call (bkx) ac;have c1:=k1.cell;have f1:=k1.frozen;have l1:=k1.lt;have c0:=k0.cell;have f0:=k0.frozen;have l0:=k0.lt;have ad:Below w.heap.size w w1:=pbx;have kr:=k1;have ae:=ad;have rr:=(((kr.set (o:=0) (.int .u64 0)).set (o:=1) (.int .u64 0)).set (o:=2) (.string ⟨#[]⟩)).cell;go_wp2;exact bodyPost_ret (v:=.tuple #[.agg #[.int .u64 0,.int .u64 0,.string ⟨#[]⟩],.int .i64 2]) (by simp [results,Tryz.results300,go_sem,rr]) rfl ⟨by first|rfl|simp,zn (zn (zn ae (by simp) _) (by simp) _) (by simp) _⟩
 by_cases ac:b<1
 ·rw [if_pos (.inr (.inl ac))] at hp
  rw [hp];have t1:decide ((b:Int)<1)=true:=by simp;omega
  replace hp:=hid hp;replace aa:=hid aa;replace ac:=hid ac
  go_enter func300,ntmps300
  go_wp2_with fail
  refine(hr.out _).mono ?_;rintro e w1⟨rfl,ac⟩;have k1:Blk w1 (w.heap.size+1) #[.int .u64 0,.int .u64 0,.string ⟨#[]⟩] 317:=Blk.call (bkx) ac;have k0:Blk w1 w.heap.size #[.int .u64 p,.int .u64 q,.string (bs x)] 317:=Blk.call (bkx) ac;have c1:=k1.cell;have f1:=k1.frozen;have l1:=k1.lt;have c0:=k0.cell;have f0:=k0.frozen;have l0:=k0.lt;have ad:Below w.heap.size w w1:=pbx;have kr:=k1;have ae:=ad;have rr:=(((kr.set (o:=0) (.int .u64 0)).set (o:=1) (.int .u64 0)).set (o:=2) (.string ⟨#[]⟩)).cell;go_wp2;exact bodyPost_ret (v:=.tuple #[.agg #[.int .u64 0,.int .u64 0,.string ⟨#[]⟩],.int .i64 2]) (by simp [results,Tryz.results300,go_sem,rr]) rfl ⟨by first|rfl|simp,zn (zn (zn ae (by simp) _) (by simp) _) (by simp) _⟩
 have t1:decide ((b:Int)<1)=false:=by simp;omega
 by_cases hy:4000<y.length
 ·rw [if_pos (.inr (.inr hy))] at hp
  rw [hp];rw [show decide (4000<y.length)=true by simpa using hy] at aa;replace hp:=hid hp;replace aa:=hid aa;replace ac:=hid ac;replace hy:=hid hy;clear af
  go_enter func300,ntmps300
  go_wp2_with fail
  refine(hr.out _).mono ?_;rintro e w1⟨rfl,ac⟩;have k1:Blk w1 (w.heap.size+1) #[.int .u64 0,.int .u64 0,.string ⟨#[]⟩] 317:=Blk.call (bkx) ac;have k0:Blk w1 w.heap.size #[.int .u64 p,.int .u64 q,.string (bs x)] 317:=Blk.call (bkx) ac;have c1:=k1.cell;have f1:=k1.frozen;have l1:=k1.lt;have c0:=k0.cell;have f0:=k0.frozen;have l0:=k0.lt;have ad:Below w.heap.size w w1:=pbx;go_wp2_with fail
  refine(aa.out _ _ (by simp)).mono ?_;rintro e w2⟨rfl,rfl⟩;have kr:=k1.alloc (.cells #[.string (bs y)] 9);have cr:=kr.cell;have fr:=kr.frozen;have lr:=kr.lt;have rr:=((((k1.set (o:=0) (.int .u64 0)).set (o:=1) (.int .u64 0)).set (o:=2) (.string ⟨#[]⟩)).alloc (.cells #[.string (bs y)] 9)).cell;go_wp2;exact bodyPost_ret (v:=.tuple #[.agg #[.int .u64 0,.int .u64 0,.string ⟨#[]⟩],.int .i64 2]) (by simp [results,Tryz.results300,go_sem,rr]) rfl ⟨by first|rfl|simp,zi (zn (zn (zn ad (by simp) _) (by simp) _) (by simp) _) _⟩
 rw [if_neg (by simp;omega)] at hp
 rw [show decide (4000<y.length)=false by simpa using hy] at aa;replace aa:=hid aa;replace ac:=hid ac;replace hy:=hid hy;clear af
 by_cases hbp:b<p
 ·rw [if_pos hbp] at hp
  rw [hp];have t2:decide ((b:Int)<(p:Int))=true:=by simpa using hbp
  replace hp:=hid hp;replace hbp:=hid hbp
  go_enter func300,ntmps300
  go_wp2_with fail
  refine(hr.out _).mono ?_;rintro e w1⟨rfl,ac⟩;have k1:Blk w1 (w.heap.size+1) #[.int .u64 0,.int .u64 0,.string ⟨#[]⟩] 317:=Blk.call (bkx) ac;have k0:Blk w1 w.heap.size #[.int .u64 p,.int .u64 q,.string (bs x)] 317:=Blk.call (bkx) ac;have c1:=k1.cell;have f1:=k1.frozen;have l1:=k1.lt;have c0:=k0.cell;have f0:=k0.frozen;have l0:=k0.lt;have ad:Below w.heap.size w w1:=pbx;go_wp2_with fail
  refine(aa.out _ _ (by simp)).mono ?_;rintro e w2⟨rfl,rfl⟩;have kr:=k1.alloc (.cells #[.string (bs y)] 9);have cr:=kr.cell;have fr:=kr.frozen;have lr:=kr.lt;have rr:=((((k1.set (o:=0) (.int .u64 0)).set (o:=1) (.int .u64 0)).set (o:=2) (.string ⟨#[]⟩)).alloc (.cells #[.string (bs y)] 9)).cell;go_wp2;exact bodyPost_ret (v:=.tuple #[.agg #[.int .u64 0,.int .u64 0,.string ⟨#[]⟩],.int .i64 80]) (by simp [results,Tryz.results300,go_sem,rr]) rfl ⟨by first|rfl|simp,zi (zn (zn (zn ad (by simp) _) (by simp) _) (by simp) _) _⟩
 rw [if_neg hbp] at hp
 rw [hp];have t2:decide ((b:Int)<(p:Int))=false:=by simpa using hbp
 replace hp:=hid hp;replace hbp:=hid hbp
 go_enter func300,ntmps300
 go_wp2_with fail
 refine(hr.out _).mono ?_;rintro e w1⟨rfl,ac⟩;have k1:Blk w1 (w.heap.size+1) #[.int .u64 0,.int .u64 0,.string ⟨#[]⟩] 317:=Blk.call (bkx) ac;have k0:Blk w1 w.heap.size #[.int .u64 p,.int .u64 q,.string (bs x)] 317:=Blk.call (bkx) ac;have c1:=k1.cell;have f1:=k1.frozen;have l1:=k1.lt;have c0:=k0.cell;have f0:=k0.frozen;have l0:=k0.lt;have ad:Below w.heap.size w w1:=pbx;go_wp2_with fail
 refine(aa.out _ _ (by simp)).mono ?_;rintro e w2⟨rfl,rfl⟩;have kr:=k1.alloc (.cells #[.string (bs y)] 9);have cr:=kr.cell;have fr:=kr.frozen;have lr:=kr.lt;have rr:=((((k1.set (o:=0) (.int .u64 b)).set (o:=1) (.int .u64 b)).set (o:=2) (.string (bs<|y))).alloc (.cells #[.string (bs y)] 9)).cell;go_wp2;exact bodyPost_ret (v:=.tuple #[.agg #[.int .u64 b,.int .u64 b,.string (bs<|y)],.int .i64 0]) (by simp [results,Tryz.results300,go_sem,rr]) rfl ⟨by first|rfl|simp,zi (zn (zn (zn ad (by simp) _) (by simp) _) (by simp) _) _⟩
def yb(x:List UInt8):Value:=.agg #[.string (bs x)]
def qB(vb kb:Nat)(p:xH):Array Value:=#[.map (some vb),.map (some kb),.int .i64 (p.length:Nat),.int .i64 0]
def yh(B:Nat)(p:xH)(t:List Nat)(ow:Own)(W:World):Prop:=
 p.length<=10000/\∃vb kb,Blk W B (qB vb kb p) 227/\z6 W vb Qw (p.votes.map λq=>(q.1,y6 q.2))/\z6 W kb Qw (p.known.map λq=>(q.1,yb q.2))/\vb≠kb/\ow B=t/\ow vb=t/\ow kb=t
theorem yh.loc(B:Nat)(p:xH)(t:List Nat):yI t (yh B p t):=by
 rintro ow ow' W W'⟨hl,vb,kb,hB,hv,hk,ac,o1,o2,o3⟩ hs aa;have kB:=aa B hB.lt (by rw [o1];exact Sub.rfl' t);have kv:=aa vb hv.lt (by rw [o2];exact Sub.rfl' t);have kk:=aa kb hk.lt (by rw [o3];exact Sub.rfl' t);exact⟨hl,vb,kb,hB.kept kB.2,hv.kept kv.2,hk.kept kk.2,ac,kB.1.trans o1,kv.1.trans o2,kk.1.trans o3⟩
def XN(B:Nat)(p:xH)(t:List Nat)(ow:Own)(w:World)(v:Value)(e:Ending)(w':World):Prop:=
 e=.returned v/\∃ow',zt t ow w ow' w'/\yh B p t ow' w'
def zgr(t:List Nat)(ow:Own)(w:World)(e:Ending)(w':World):Prop:=
 ∃B ow',e=.returned (.pointer (some ⟨B,0,none⟩))/\zt t ow w ow' w'/\Below w.heap.size w w'/\yh B xl t ow' w'/\w.heap.size<=B
theorem ziB(t:List Nat)(ow:Own)(w:World):Calls prog 88 #[] w (zgr t ow w):=by
 have aa:= @run_makeMap prog
 go_enter func88,ntmps88
 go_wp2;go_ret
 have hb:Below w.heap.size w (((w.alloc (.map #[] 0)).alloc (.map #[] 0)).alloc (.cells #[.map (some w.heap.size),.map (some (w.heap.size+1)),.int .i64 0,.int .i64 0] 227)):=pbx;refine⟨w.heap.size+2,ow.ext w.heap.size (λ_=>True) t,rfl,⟨Mod.of_below _ hb,λk hk=>Own.ext_old hk⟩,hb,⟨by simp [xl],w.heap.size,w.heap.size+1,Blk.new (by simp),?_,?_,by omega,Own.ext_new (by omega) trivial,Own.ext_new (by omega) trivial,Own.ext_new (by omega) trivial⟩,by omega⟩
 ·exact((z6.made w Qw).kept (U4 _ _ _ (by simp))).kept (U4 _ _ _ (by simp;omega))
 have h:=(z6.made (w.alloc (.map #[] 0)) Qw).kept (U4 (w.alloc (.map #[] 0)|>.alloc (.map #[] 0)) (.cells #[.map (some w.heap.size),.map (some (w.heap.size+1)),.int .i64 0,.int .i64 0] 227) _ (by simp))
 simpa [xl] using h
theorem Y4(i:Int)(w:World):Calls prog 253 #[.int .i64 i] w λe w'=>e=.returned (.bool (zR i))/\w'=w:=by
 unfold zR
 by_cases h1:1<=i
 ·have t1:decide (1<=i)=true:=by simpa using h1
  rw [t1]
  go_enter func253,ntmps253
  go_wp2;go_ret
  exact⟨by simp,rfl⟩
 have t1:decide (1<=i)=false:=by simpa using h1
 rw [t1]
 go_enter func253,ntmps253
 go_wp2;go_ret
 exact⟨by simp,rfl⟩
theorem zgs(i:Int)(w:World):Calls prog 254 #[.int .i64 i] w λe w'=>
 e=.returned (.func (.func 305) #[] #[.pointer (some ⟨w.heap.size,0,none⟩)])/\w'=w.alloc (.cells #[.int .i64 i] 3):=by
 go_enter func254,ntmps254
 go_wp2;go_ret
 exact⟨rfl,rfl⟩
theorem zd7(cb:Nat)(n:Nat)(hn:n<=10000):
 Qr Fence.wide 2 prog 305 #[.pointer (some ⟨cb,0,none⟩)] (λx:Nat=> #[.int .i64 (x:Nat)])
  (λ(s:Nat) x=>s<10000/\x=s+1) (λs _=>s+1) (λs=>s=10000)
  (λ_ W=>Blk W cb #[.int .i64 (n:Nat)] 3) n:=by
 intro lp J Jx W hJ hJx hRd hY h0;have e0:=(hRd _ _ _ h0).cell;have hF:Fence.wide.fn 305:=trivial;have ac:Fence.wide.round=none:=rfl;have hw:IntKind.i64.wrap ((n:Int)+1)=(n:Int)+1:=by rw [N8];omega
 refine callsIn_of_wp func305 rfl hF ?_ ac;simp only [ntmps305,R8,Nat.reduceAdd,Nat.reduceSub]
 gi_wp2
 gi_loopw [3] (λp wr=>∃(k:Nat)(X:Nat->Prop),p=.int .i64 ((k:Int)+1)/\k<=10000/\J k X wr) (λp _=>10001 - (intOf p).toNat)
 case atStart=>exact⟨n,_,rfl,hn,h0⟩
 case round=>
  obtain⟨k,X,rfl,hk,aa⟩:=hrel;clear e0;have af:IntKind.i64.wrap ((k:Int)+1+1)=(k:Int)+1+1:=by rw [N8];omega
  by_cases hlt:k<10000
  ·have t0:decide ((k:Int)+1<=10000)=true:=by simp;omega
   obtain⟨fn,tmps,assign,body,hy,hR⟩:=hY k (k+1) X wr aa ⟨hlt,rfl⟩;simp only [Int.natCast_add,Int.cast_ofNat_Int] at hy
   gi_wp2
   refine hR.mono ?_;rintro e W'(⟨rfl,ae, -⟩|⟨rfl,ad⟩)
   ·clear hR hy
    gi_wp2
    go_roundw
    case rel=>exact⟨k+1,_,by simp,by omega,ae⟩
    case measure=>simp [intOf];omega
   gi_wp2
   refine bodyPost_ret (results_none rfl _ _ _) rfl ?_;exact⟨⟨_,rfl⟩,.inr ⟨_,ad⟩⟩
  obtain rfl:k=10000:=by omega
  gi_wp2
  go_end0
  exact⟨⟨_,rfl⟩,.inl ⟨10000,X,rfl,aa⟩⟩
theorem zly(n:Nat):le4 (n % 4294967296)=le4 n:=by
 unfold le4;simp only [List.cons.injEq,and_true];refine⟨?_,?_,?_,?_⟩<;>(apply UInt8.toNat_inj.1;simp<;>omega)
theorem zac(n:Nat)(hn:n<18446744073709551616)(w:World):Calls prog 301 #[.int .u64 n] w λe w'=>e=.returned (.string (bs (le8 n)))/\Below w.heap.size w w':=by
 have h1:IntKind.u32.wrap (n:Int)=((n % 4294967296:Nat):Int):=by rw [IntKind.wrap_u32];omega
 have h2:IntKind.u32.wrap ((n:Int) / 4294967296)=((n / 4294967296:Nat):Int):=by rw [IntKind.wrap_u32];omega
 have aa:=λW=>y9 (n % 4294967296) W
 have ac:=λW=>y9 (n / 4294967296) W
 rw [zly] at aa;have af:=JA (le4 n) (le4 (n / 4294967296)) (by simp [jd]);unfold le8;replace aa:=hid aa;replace ac:=hid ac
 go_enter func301,ntmps301
 go_wp2_with fail
 refine(aa.out _).mono ?_;rintro e w1⟨rfl,ae⟩;go_wp2_with fail
 refine(ac.out _).mono ?_;rintro e w2⟨rfl,ad⟩;go_wp2;go_ret
 exact⟨rfl,zh ae ad⟩
def zkZ(S:Act->World->Prop):Exit->Act->World->Prop
 | .normal,a,w=>S a w
 |_,_,_=>False
theorem zmf {S:Act->World->Prop}{a:Act}{w:World}(h:S a w):zkZ S .normal a w:=h
theorem zlz {P:Program}{c:Code}{Q:Exit->Act->World->Prop}{a:Act}{w:World}(S:Act->World->Prop)(h:c.wp P (zkZ S) a w)(h2:∀a' w',S a' w'->Q .normal a' w'):c.wp P Q a w:=
 wp_mono h (λe a' w' hs=>by
  cases e with
  |normal=>exact h2 a' w' hs
  |_=>exact hs.elim)
theorem ziC(kind:UInt8)(i:Int)(h0:0<=i)(v:Value)(ts:List (List UInt8))(w:World)(hv:Src w v 1 ts.length (yR ts))(hl:ts.length<=1000000)(hb:zay ts ts.length<=1073741000):
 Calls prog 255 #[.int .u8 (kind.toNat:Int),.int .i64 i,v] w λe w'=>e=.returned (.string (bs (xO kind i ts.flatten)))/\Below w.heap.size w w':=by
 have am:IntKind.u32.wrap i=((i.toNat % 4294967296:Nat):Int):=by rw [IntKind.wrap_u32];omega
 have aa:=JA [kind] (le4 (i.toNat % 4294967296)) (by simp [jd]);obtain⟨hd,ad⟩:∃hd,[kind] ++le4 (i.toNat % 4294967296)=hd:=⟨_,rfl⟩;have ah:hd.length=5:=by rw [← ad];simp [jd]
 have ac:xO kind i ts.flatten=hd++ts.flatten:=by unfold xO;rw [ad]
 rw [ad] at aa;rw [ac]
 generalize i.toNat % 4294967296=m at*
 obtain⟨va,vn,vc,aj⟩:∃a n c,v=.slice a n c:=by
  rcases hv.2 with⟨rfl, -⟩|⟨b,off,cap,rfl, -⟩
  ·exact⟨_,_,_,rfl⟩
  exact⟨_,_,_,rfl⟩
 subst aj;have ak:=zfe kind;replace ac:=hid ac;replace ad:=hid ad;replace hv:=hid hv;replace ah:=hid ah
 go_enter func255,ntmps255
 go_wp2_with fail
 refine zlz (λa' w'=>(∃p,a'={tmps:=#[.int .u8 kind.toNat,.int .i64 i,.slice va vn vc,undef,undef,undef,.string ⟨#[]⟩,.string (bs hd),undef,undef,.int .u8 kind.toNat,p,.string (bs [kind]),.int .i64 i,.int .u32 m,.string (bs (le4 m)),.string (bs hd),undef,undef,undef,undef,undef,undef,undef,undef,undef,undef,undef],defers:=[] })/\Below w.heap.size w w') ?_ ?_
 ·go_region_with (go_at_call 134;(with_reducible refine(y9 _ _).mono ?_);rintro e w1 ⟨rfl,hb⟩;have hz:=hb.size;obtain⟨an,al⟩:=zbt hb)
  all_goals go_simp
  all_goals exact zmf ⟨⟨_,rfl⟩,pbx⟩
 rintro _ W⟨⟨p,rfl⟩,ae⟩
 have af:=hv.out.below ae;clear hv ak aa
 rcases af.2 with⟨h0,hn⟩|⟨b,off,cap,h0,hc,hr⟩
 ·obtain⟨rfl,rfl,rfl⟩:va=none/\vn=0/\vc=0:=by simpa using h0
  obtain rfl:ts=[]:=N9 hn;clear af;go_wp2
  go_loop [7,19] (λp7 p19=>p19=.int .i64 0/\p7=.string (bs hd)) (λ_ _=>0)
  case atStart=>exact⟨rfl,rfl⟩
  case round=>
   obtain⟨rfl,rfl⟩:=hrel;go_wp2;go_ret
   exact⟨by simp,ae⟩
 obtain⟨rfl,rfl,rfl⟩:va=some ⟨b,off,none⟩/\vn=ts.length/\vc=cap:=by simpa using h0
 clear h0 af;go_wp2
 go_loop [7,19] (λp7 p19=>∃k:Nat,k<=ts.length/\p19=.int .i64 k/\p7=.string (bs (hd++(ts.take k).flatten))) (λ_ p19=>ts.length - (intOf p19).toNat)
 case atStart=>exact⟨0,Nat.zero_le _,rfl,by simp⟩
 case round=>
  obtain⟨k,hk,rfl,rfl⟩:=hrel
  by_cases hlt:k<ts.length
  ·obtain⟨x,hx⟩:∃x,ts[k]?=some x:=⟨_,N3 hlt⟩
   have ao:W.cell? ⟨b,off+k,none⟩=some (.string (bs x)):=hr k _ (by simp [yR,hx]);have ai:=V9 ts (k+1);have ag:=Ye ts k x hx;rw [Yf hx] at ai;have aa:=JA (hd++(ts.take k).flatten) x (by have h2:zay ts k=(ts.take k).flatten.length:=rfl;have:=ah.out;rw [N1];omega) W;rw [List.append_assoc,← ag] at aa;replace ag:=hid ag;replace hx:=hid hx;clear hr;go_wp2
   go_round
   case rel=>exact⟨k+1,by omega,by go_num,rfl⟩
   case measure=>simp [intOf];omega
  obtain rfl:k=ts.length:=by omega
  rw [List.take_length];clear hr;go_wp2;go_ret
  exact⟨rfl,ae⟩
