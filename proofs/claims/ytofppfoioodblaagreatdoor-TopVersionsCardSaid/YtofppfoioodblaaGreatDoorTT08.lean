/- PARTS OF THE PROOF. -/
import Derived.Deep.RegionWith
import Derived.Test.YtofppfoioodblaaGreatDoorTT06
import Derived.Test.YtofppfoioodblaaGreatDoorTT07
set_option maxRecDepth 8000
set_option maxHeartbeats 4000000
open Go.Proofs.Tryz
namespace Go.Proofs.YtofppfoioodblaaGreatDoor
section
open Go Go.RowKit Go.Shelf Go.Extern.Stop Go.Stop Go.Extern Go.Lib
attribute [local go_sem] Oper.semAt_some zv zm
def ziv(l:List qZ)(pb:Nat)(W0:World)(k:Nat)(X:Nat->Prop)(W:World):Prop:=
 Fr (λk=>k=pb) W0 X W/\k<=l.length/\∃pv,Blk W pb #[pv] 217/\Row W 197 3 pv (l.take k).length ((l.take k).flatMap jd)/\(∀g,pv.ownBlock=some g->W0.heap.size<=g/\¬X g)
theorem ziv.stab {l:List qZ}{pb:Nat}{W0:World}{k:Nat}{X X':Nat->Prop}{W W':World}(h1:pb<W0.heap.size)
 (h:ziv l pb W0 k X W) (hm:Mod X W W') (hx:∀k,X' k->X k∨(W.heap.size<=k/\k<W'.heap.size)):ziv l pb W0 k X' W':=by
 obtain⟨hfr,hk,pv,kp,kw,hn⟩:=h;refine⟨hfr.step hm hx,hk,pv,kp.kept (hfr.block hm h1),kw.mod hm (λg hg=>(hn g hg).2),λg hg=>⟨(hn g hg).1,λhX=>?_⟩⟩
 rcases hx g hX with h|h
 ·exact(hn g hg).2 h
 ·have:=kw.lt hg;omega
theorem zeG(gf:Nat)(lb:Array Value)(l:List qZ)(Rd:Nat->World->Prop)
 (hit:XG Fence.wide 2 prog gf lb (λx:qZ=> #[Js x]) (λ(k:Nat) x=>l[k]?=some x) (λk _=>k+1) (λk=>k=l.length) Rd 0)
 (eg:∀args w,(callFunc gf args).run prog w=.ok (.enter gf args) w) (w:World) (hRd:∀W k,Below w.heap.size w W->Rd k W) (hl:l.length<=536870912):
 Calls prog 277 #[.slice none 0 0,.func (.func gf) #[] lb] w λe w'=>
  ∃v',e=.returned v'/\Row w' 197 3 v' l.length (l.flatMap jd)/\Below w.heap.size w w'/\(∀g,v'.ownBlock=some g->w.heap.size<=g):=by
 refine zl func277 rfl ?_;simp only [ntmps277,R8,Nat.reduceAdd,Nat.reduceSub];go_wp2;obtain⟨pb,hpb⟩:∃pb,pb=w.heap.size:=⟨_,rfl⟩;obtain⟨W0,hW0⟩:∃W0,W0=w.alloc (.cells #[.slice none 0 0] 217):=⟨_,rfl⟩;have hsz:W0.heap.size=pb+1:=by rw [hW0,hpb];simp
 have hb0:Below w.heap.size w W0:=by rw [hW0];exact pbx
 have kp:Blk W0 pb #[.slice none 0 0] 217:=by rw [hW0];exact Blk.new hpb
 rw [← hW0,← hpb];replace hRd:=hid hRd;replace hpb:=hid hpb;clear hW0
 refine yS (gf:=gf) (lb:=lb) rfl eg hit (λ_=>rfl)
  (λk X W=>ziv l pb W0 k X W) (λc X W=>False)
  (λk X X' W W' h hm hx=>h.stab (by omega) hm hx)
  (λc s X X' W W' h hm hx=>h)
  (λk X W h=>hRd.out W k (hb0.trans (h.1.below (by have:=hpb.out;omega) (λk hk=>by have:=hpb.out;omega))))
  (λk X W h=>⟨h.1.2.size,λk hk=>(h.1.1 k hk).2⟩)
  ⟨Fr.refl _ _,Nat.zero_le _,_,kp,z7 _ _ _,by simp [Value.ownBlock]⟩
  5 197 (λx=> #[.int .u32 x.1,.int .i64 x.2.1,.int .i64 x.2.2]) ?assign ?body ?done ?stop
 case assign=>
  intro l' x W K hK;rw [zZ] at hK⊢;unfold Js at hK⊢
  gi_wp2
  exact hK
 case body=>
  rintro l' k x cb X X1 W1 W h1⟨hfr,hk,pv,kp',kw',hn⟩ hnx hcb hcw hXc kx hXl _;obtain⟨ep,ve,st⟩:=x;have e0:=kx.cell;simp only at e0;rw [zZ];unfold Js;have lc:=kx.lt;have lp:=kp'.lt;have ep0:=kp'.cell;have hkl:=(N6.1 hnx).1;have hlen:(l.take k).length+1<=1073741824:=by rw [N7];omega
  replace hlen:=hid hlen;replace hn:=hid hn
  gi_wp2_with (gi_at_builtin
               obtain⟨nv',W3,hrun,hrow,hgr,hown⟩:=zT zlt (kw'.below ((N2 _ _).alloc (N0 _) (.cells #[.int .u32 (ep:Int),.int .i64 ve,.int .i64 st] 197))) (jM (n:=1) (size:=3) (cap:=1) (Blk.new (w:=W) (cs:=#[.int .u32 (ep:Int),.int .i64 ve,.int .i64 st]) (t:=197) rfl) rfl (N0 1)) (YJ [(ep,ve,st)]) hlen.out 217;refine jQ rfl _ _ _ rfl rfl rfl hrun ?_;have kp3:Blk W3 pb #[pv] 217:=(kp'.alloc _).kept (hgr.block pb (by simp;omega) (λe=>by have:=(hn.out pb e.symm).1;omega));have en3:=kp3.cell;have fn3:=kp3.frozen;have lN3:=kp3.lt;obtain⟨sa,sm,sc,rfl⟩:=hrow.shape
               clear hrun)
  have hm:Mod (λk=>k=pb∨pv.ownBlock=some k) W (W3.setCell ⟨pb,0,none⟩ (.slice sa sm sc)):=
   (((Mod.refl (λk=>k=pb∨pv.ownBlock=some k) W).thenAlloc _).trans (Mod.grown hgr (λk h=>.inr h)) (λ_ _ e=>e) (λ_ _ e=>e)).thenSet (p:=⟨pb,0,none⟩) (.inl rfl) _
  have htk:l.take (k+1)=l.take k++ [(ep,ve,st)]:=by rw [List.take_add_one,hnx];rfl
  refine⟨⟨hfr.mod hm (λk hk h=>?_),by omega,_,kp3.set _,?_,?_⟩,jB.of_mod hm (λk hk hX h=>?_)⟩
  ·rcases h with h|h
   ·exact h
   ·have:=(hn.out k h).1;omega
  ·rw [htk]
   simp only [N1,U2,U5];refine Row.kept (w:=W3) hrow (λg hg=>N4 _ _ _ _ (show g≠pb from λe=>?_));rw [hg] at hown
   rcases hown with h|h
   ·have:=(hn.out _ h.symm).1;omega
   ·simp at h;omega
  ·intro g hg
   rw [hg] at hown
   rcases hown with h|h
   ·exact hn.out g h.symm
   ·simp at h
    have:=hfr.2.size;exact⟨by omega,λhX=>by have:=(hfr.1 g hX).2;omega⟩
  ·have:=hfr.1 k hX
   rcases h with h|h
   ·omega
   ·exact(hn.out k h).2 hX
 case done=>
  rintro D k X W hD hXD hfin⟨hfr,hk,pv,kp',kw',hn⟩ hdef;obtain rfl:k=l.length:=hfin;rw [List.take_length] at kw';have ep0:=kp'.cell;have hDl:=(N5.1 hdef).1;have hbW:Below w.heap.size w W:=hb0.trans (hfr.below (by have:=hpb.out;omega) (λk h=>by have:=hpb.out;omega));replace hn:=hid hn;go_wp2;refine zeu (D:=D) (v:=pv) hdef (by simp [results,Tryz.results277,go_sem]) ?_;refine⟨pv,rfl,kw'.kept (λg hg=>U1 (λe=>(hn.out g hg).2 (by rw [e];exact hXD))),zN hbW (by have:=hpb.out;omega) _,λg hg=>by have:=(hn.out g hg).1;have:=hpb.out;omega⟩
 case stop=>rintro D c X W hD hXD h;exact h.elim
theorem XJ(ev:Value)(l:List qZ)(cb:Nat)(w:World)(hc:Blk w cb #[ev] 217)(hv:Src w ev 3 l.length (l.flatMap jd))(hl:l.length<=536870912):
 Calls prog 226 #[.func (.func 322) #[] #[.pointer (some ⟨cb,0,none⟩)]] w λe w'=>
  ∃v',e=.returned v'/\Row w' 197 3 v' l.length (l.flatMap jd)/\Below w.heap.size w w'/\(∀g,v'.ownBlock=some g->w.heap.size<=g):=by
 have hs:=zeG 322 #[.pointer (some ⟨cb,0,none⟩)] l (λ_ W=>Blk W cb #[ev] 217/\Src W ev 3 l.length (l.flatMap jd))
  (Vy cb ev l (by omega)) (enters_of func322 (by kernel_rfl) rfl) w (λW k hb=>⟨hc.call hb,hv.below hb⟩) hl
 replace hs:=hid hs;clear hc hv hl
 go_enter func226,ntmps226
 go_wp2_with (go_at_call 277;refine hs.out.mono ?_;rintro e w1 ⟨v',rfl,h1,h2,h3⟩;replace h3:Hid (∀_,_):=h3)
 go_ret
 exact⟨_,rfl,h1,h2,h3.out⟩
theorem zdJ(B:Nat)(f:yJ)(t:List Nat)(ow:Own)(w:World)(h:zH B f t ow w)(hl:f.eras.length<=536870912):Calls prog 170 #[.pointer (some ⟨B,0,none⟩)] w λe w'=>
 ∃v',e=.returned v'/\Row w' 197 3 v' f.eras.length (f.eras.flatMap jd)/\Below w.heap.size w w'/\(∀g,v'.ownBlock=some g->w.heap.size<=g):=by
 have hn:=zdI B f t ow w h;have ha:=zgt B f t ow w h;replace hn:=hid hn;replace ha:=hid ha;clear h
 go_enter func170,ntmps170
 go_wp2_with (first
  |(go_at_call 225;refine hn.out.mono ?_;rintro e w1 ⟨rfl,rfl⟩)
  |(go_at_call 227;refine ha.out.mono ?_;rintro e w2 ⟨ev,rfl,rfl,h1,h2⟩;replace h2:Hid (∀_,_):=h2)
  |(go_at_call 226;refine(XJ ev f.eras _ _ (Blk.new rfl) (h1.src.below ((N2 _ _).alloc (N0 _) _)) hl).mono ?_;rintro e w3 ⟨v',rfl,h3,h4,h5⟩;replace h5:Hid (∀_,_):=h5))
 go_ret
 refine⟨_,rfl,h3,pbx,λg hg=>by have:=h5.out g hg;simp at this;omega⟩
def zgu(v:Int)(t:List Nat)(ow:Own)(w:World)(e:Ending)(w':World):Prop:=
 ∃B ow',e=.returned (.tuple #[.pointer (some ⟨B,0,none⟩),.int .i64 0])/\zq t ow w ow' w'/\Below w.heap.size w w'/\zH B (q8 v) t ow' w'
theorem jR.own {B:Nat}{b:vw}{t:List Nat}{ow ow':Own}{W:World}(h:jR B b t ow W)(hk:∀k,ow' k=ow k∨∃cs T,Blk W k cs T/\T≠358/\T≠78):jR B b t ow' W:=by
 obtain⟨hok,lv,mb,hB,hR,hM,o1,o2,o3⟩:=h;refine⟨hok,lv,mb,hB,hR,hM,?_,?_,λg hg=>?_⟩
 ·rcases hk B with h|⟨cs,T,h,h1, -⟩
  ·rw [h,o1]
  ·have:=hB.symm.trans h;simp at this;exact absurd this.2.symm h1
 ·rcases hk mb with h|⟨cs,T,h,h1, -⟩
  ·rw [h,o2]
  ·exact absurd rfl (h.ne_map hM)
 ·rcases hk g with h|⟨cs,T,h, -,h1⟩
  ·rw [h,o3 g hg]
  ·exact absurd rfl (hR.ne_blk h (Ne.symm h1) hg)
theorem zgv {v:Int}{t:List Nat}{ow ow2:Own}{w W:World}{B rb bb:Nat}(hb:Below w.heap.size w W)(kB:Blk W B #[.pointer (some ⟨bb,0,none⟩),.slice (some ⟨rb,0,none⟩) 1 1,.int .i64 0,.bool false] 284)
 (kr:Blk W rb #[.int .u32 1,.int .i64 v,.int .i64 0] 197) (hk:jR bb xL (t++ [0]) ow2 W) (h1:w.heap.size<=B) (h2:w.heap.size<=rb) (ho:∀k,k<w.heap.size->ow2 k=ow k):
 zgu v t ow w (.returned (.tuple #[.pointer (some ⟨B,0,none⟩),.int .i64 0])) W:=by
 have hne:B≠rb:=λe=>by subst e;have:=kB.symm.trans kr;simp at this
 refine⟨B,λk=>if k=B∨k=rb then t else ow2 k,rfl,⟨Mod.of_below _ hb,λk hk=>?_⟩,hb,by simp [q8],bb,.slice (some ⟨rb,0,none⟩) 1 1,kB,?_,?_,by simp,λg hg=>?_⟩
 ·show(if k=B∨k=rb then t else ow2 k)=ow k
  rw [if_neg (by omega),ho k hk]
 ·refine hk.own (λk=>?_)
  by_cases h:k=B∨k=rb
  ·right
   rcases h with rfl|rfl
   ·exact⟨_,_,kB,by decide,by decide⟩
   ·exact⟨_,_,kr,by decide,by decide⟩
  ·left;simp [h]
 ·exact⟨rfl,.inr ⟨rb,1,_,rfl,Nat.zero_le _,kr,N0 _,by decide,rfl,rfl⟩⟩
 ·simp [Value.ownBlock] at hg
  simp [hg]
theorem ziw(v:Int)(hv:known v=true)(t:List Nat)(ow:Own)(w:World):Calls prog 130 #[.int .i64 v] w (zgu v t ow w):=by
 go_enter func130,ntmps130
 go_wp2_with (go_at_call 163;refine(vl _ _).mono ?_;rintro e w1 ⟨rfl,hb1⟩;rw [hv])
 go_region_with (go_at_call 172;refine(zjN (t++ [0]) (ow.ext w.heap.size (λ_=>False) []) _).mono ?_;rintro e w2 ⟨bb,ow2,rfl,hs2,hb2,hk2⟩;have k4:Blk w2 w1.heap.size #[.int .u32 1,.int .i64 v,.int .i64 0] 197:=Blk.call (bkx) hb2;have e4:=k4.cell)
 all_goals
  go_wp2;simp only [List.getElem_toArray,List.getElem_cons_succ,List.getElem_cons_zero,Act.put,List.setIfInBounds_toArray,List.set_cons_succ,List.set_cons_zero];have hz1:=hb1.size;have hz2:=hb2.size;simp at hz2
  have hag:∀k,k<w.heap.size->ow2 k=ow k:=λk hk=>(hs2.agree k (by simp;omega)).trans (Own.ext_old hk)
  first
   |exact bodyPost_ret (v:=.tuple #[.pointer (some ⟨w2.heap.size+1,0,none⟩),.int .i64 0]) (by simp [results,Tryz.results130,go_sem]) rfl (zgv (rb:=w2.heap.size) (pbx) (Blk.new (by simp)) ((Blk.new rfl).alloc _) ((jR.loc bb xL (t++ [0])).below hk2 (pbx)) (by omega) (by omega) hag)
   |exact bodyPost_ret (v:=.tuple #[.pointer (some ⟨w2.heap.size,0,none⟩),.int .i64 0]) (by simp [results,Tryz.results130,go_sem]) rfl (zgv (rb:=w1.heap.size+1) (pbx) (Blk.new rfl) (Blk.alloc (Blk.call (Blk.drew (Blk.new (by simp))) hb2) _) ((jR.loc bb xL (t++ [0])).below hk2 (pbx)) (by omega) (by omega) hag)
def QR(B:Nat)(f:yJ)(t:List Nat)(ow:Own)(w:World)(v:Value)(e:Ending)(w':World):Prop:=
 e=.returned v/\∃ow',zq t ow w ow' w'/\zH B f t ow' w'
theorem VA(B:Nat)(f:yJ)(t:List Nat)(ow:Own)(v:Int)(sw:Bool)(w:World)(h:zH B f t ow w)(hl:f.eras.length<=536870912):
 Calls prog 336 #[.pointer (some ⟨B,0,none⟩),.int .i64 v,.bool sw] w (QR B (vG f v sw) t ow w (.tuple #[])):=by
 have hnow:=Vz B f t ow;obtain⟨⟨ep,ve,st⟩,hn⟩:∃n,vk f.eras=n:=⟨_,rfl⟩;rw [hn] at hnow;unfold Js at hnow;have h0:=h;obtain⟨hne,bb,ev,hB,hbk,hR,o1,o2⟩:=h;have hbeg:(vG f v sw).eras=f.eras++ [((ep+1)% 4294967296,v,f.count)]:=by unfold vG;rw [hn]
 unfold vp at hB;have hwr:IntKind.u32.wrap ((ep:Int)+1)=(((ep+1)% 4294967296:Nat):Int):=by rw [IntKind.wrap_u32];omega
 generalize hep:(ep+1)% 4294967296=ep1 at*
 replace hep:=hid hep;replace hbeg:=hid hbeg;replace hnow:=hid hnow;replace hn:=hid hn;replace h0:=hid h0;replace hbk:=hid hbk;replace o2:=hid o2
 go_enter func336,ntmps336
 refine wp_seq_k λK0 hK0=>?_
 refine zd [O 0,O 1,O 2,O 3,O 4,O 5,O 9,O 10,O 11,O 12,O 13,E 6,O 7,O 8,E 14,E 15,E 16,O 17,O 18,E 19] (some 19) (λw'=>Blk w' B #[.pointer (some ⟨bb,0,none⟩),ev,.int .i64 f.count,.bool f.sw] 284/\True) (by kernel_rfl) (by kernel_rfl) ⟨hB.drew,trivial⟩ ?_
 (repeat (refine za (v:=?_) rfl rfl (λw' h=>?_) (λK k=>?_);rotate_left;obtain⟨f1,_⟩:=h;have e1:=f1.cell;go_simp;(try with_reducible rfl);go_simp;refine k _ ?_;clear k K))
 refine zc rfl (λK hK=>?_)
 go_wp2_with (go_at_call 308;refine(hnow.out _ ((zH.loc B f t).below h0.out (Below.drew (N2 _ _))) (by omega)).mono ?_;rintro e w1 ⟨rfl,hb1⟩)
 have k1:=hB.drew.call hb1;refine hK.out _ _ (λ_=>⟨k1,trivial⟩) ?_;clear hK;have hf0:=zgr ep ve st
 (repeat (refine za (v:=?_) rfl rfl (λw' h=>?_) (λK k=>?_);rotate_left;obtain⟨f1,_⟩:=h;have e1:=f1.cell;go_simp;(try with_reducible rfl);go_simp;refine k _ ?_;clear k K))
 clear hf0;refine zc rfl (λK hK=>?_);go_wp2;refine hK.out _ _ (λ_=>⟨k1,trivial⟩) ?_;clear hK;refine zc rfl (λK hK=>?_);go_wp2;refine hK.out _ _ (λ_=>⟨k1.alloc _,trivial⟩) ?_;clear hK;refine zc rfl (λK hK=>?_);have hbd1:Below w.heap.size w w1:=pbx;have hbd:Below w.heap.size w (w1.alloc (.cells #[.int .u32 (ep1:Int),.int .i64 v,.int .i64 f.count] 197)):=pbx;obtain⟨ev',W3,hrun,hrow,hgr,hown⟩:=zT zlt (hR.below hbd) (jM (n:=1) (size:=3) (cap:=1) (Blk.new (w:=w1) (cs:=#[.int .u32 (ep1:Int),.int .i64 v,.int .i64 f.count]) (t:=197) rfl) rfl (N0 1)) (YJ [(ep1,v,f.count)]) (by omega) 217;refine zw rfl _ _ _ rfl rfl rfl hrun ?_;unfold wpList;have hevB:∀g,ev.ownBlock=some g->g≠B/\g<w.heap.size:=λg hg=>⟨hR.ne_blk hB (by decide) hg,hR.lt hg⟩
 have k3:=(k1.alloc (.cells #[.int .u32 (ep1:Int),.int .i64 v,.int .i64 f.count] 197)).kept (hgr.block B (by have:=k1.lt;simp;omega) (λe=>(hevB B e.symm).1 rfl));refine hK.out _ _ (λ_=>⟨k3,trivial⟩) ?_;clear hK hrun;obtain⟨sa,sm,sc,rfl⟩:=hrow.shape
 (repeat (refine za (v:=?_) rfl rfl (λw' h=>?_) (λK k=>?_);rotate_left;obtain⟨f1,_⟩:=h;have e1:=f1.cell;go_simp;(try with_reducible rfl);go_simp;refine k _ ?_;clear k K))
 have e3:=k3.cell;have f3:=k3.frozen;have l3:=k3.lt;replace hevB:=hid hevB;refine zc rfl (λK hK=>?_);go_wp2;refine hK.out _ _ (λh=>absurd rfl h) ?_;clear hK e3 f3;have k4:=k3.set (o:=1) (.slice sa sm sc);have e4:=k4.cell;have f4:=k4.frozen;refine ze ?_;refine hK0 _ _ ?_;go_wp2;go_end0
 have hBlt:=hB.lt;have hlB1:=k1.lt
 have hg5:∀g,(Value.slice sa sm sc).ownBlock=some g->(ev.ownBlock=some g∨g=w1.heap.size+1):=λg hg=>by
  rw [hg] at hown
  rcases hown with h|h
  ·exact .inl h.symm
  ·right;simpa using h
 have hgB:∀g,(Value.slice sa sm sc).ownBlock=some g->g≠B:=λg hg=>by
  rcases hg5 g hg with h|h
  ·exact(hevB.out g h).1
  ·omega
 have hk6:∀k,k<w.heap.size->k≠B->ev.ownBlock≠some k->((W3.setCell ⟨B,1,none⟩ (.slice sa sm sc)).setCell ⟨B,3,none⟩ (.bool sw)).heap[k]?=w.heap[k]?:=λk hk h1 h2=>
  (N4 _ _ _ _ h1).trans ((N4 _ _ _ _ h1).trans ((hgr.block k (Nat.lt_of_lt_of_le hk hbd.size) (λe=>h2 e.symm)).trans (hbd.block k hk)))
 refine⟨rfl,ow.ext w.heap.size (λk=>(Value.slice sa sm sc).ownBlock=some k) t,⟨?_,λk hk=>Own.ext_old hk⟩,⟨by rw [hbeg.out];simp,bb,.slice sa sm sc,k4.set (o:=3) (.bool sw),?_,?_,?_,?_⟩⟩
 ·exact(((Mod.of_below (λk=>Sub t (ow k)) hbd).trans (Mod.grown (X:=λk=>ev.ownBlock=some k) hgr (λk h=>h)) (λ_ _ e=>e) (λk _ e=>by rw [o2.out k e];exact Sub.rfl' t)).thenSet (p:=⟨B,1,none⟩) (by simp only [o1];exact Sub.rfl' t) _).thenSet (p:=⟨B,3,none⟩) (by simp only [o1];exact Sub.rfl' t) _
 ·refine(jR.loc bb f.book (t++ [0])) _ _ _ _ hbk.out ?_ (λk hk hs=>⟨Own.ext_old hk,hk6 k hk (λe=>?_) (λe=>?_)⟩)
  ·have:=hbd.size;have:=hgr.size;simp;omega
  ·subst e;rw [o1] at hs;exact zQ t 0 hs
  ·rw [o2.out k e] at hs;exact zQ t 0 hs
 ·rw [hbeg.out,N1,U2,U5]
  exact Row.kept (w:=W3) hrow (λg hg=>(N4 _ _ _ _ (hgB g hg)).trans (N4 _ _ _ _ (hgB g hg)))
 ·rw [Own.ext_old hBlt,o1]
 ·intro g hg
  rcases hg5 g hg with h|h
  ·rw [Own.ext_old (hevB.out g h).2,o2.out g h]
  ·rw [Own.ext_new (by have:=hbd1.size;omega) hg]
theorem zjS(a b c a' b' c':Int)(w:World):(binOp .eql 197 (.agg #[.int .u32 a,.int .i64 b,.int .i64 c]) (.agg #[.int .u32 a',.int .i64 b',.int .i64 c'])).run prog w=.ok (.bool ((a==a')&&((b==b')&&(c==c')))) w:=by
 rw [run_eql_struct];simp [go_sem]
 by_cases h1:a=a'<;>by_cases h2:b=b'<;>by_cases h3:c=c'<;>simp [h1,h2,h3]
theorem VB(n e:qZ)(l:List qZ)(v:Int):x6 n (e::l) v=if e=n then v else x6 n l e.2.1:=rfl
def zdK(l:List qZ)(n:qZ)(vb:Nat)(W0:World)(k:Nat)(X:Nat->Prop)(W:World):Prop:=
 Fr (λk=>k=vb) W0 X W/\k<=l.length/\∃v,Blk W vb #[.int .i64 v] 3/\x6 n (l.drop k) v=x6 n l 0
theorem zdK.stab {l:List qZ}{n:qZ}{vb:Nat}{W0:World}{k:Nat}{X X':Nat->Prop}{W W':World}(h1:vb<W0.heap.size)
 (h:zdK l n vb W0 k X W) (hm:Mod X W W') (hx:∀k,X' k->X k∨(W.heap.size<=k/\k<W'.heap.size)):zdK l n vb W0 k X' W':=by
 obtain⟨hfr,hk,v,kv,ha⟩:=h;exact⟨hfr.step hm hx,hk,v,kv.kept (hfr.block hm h1),ha⟩
theorem zcr(B:Nat)(f:yJ)(t:List Nat)(ow:Own)(ent:Value)(hent:∃a b c d,ent=.agg #[a,b,c,d])(hsw:f.sw=false)(w:World)(h:zH B f t ow w):
 Calls prog 311 #[.pointer (some ⟨B,0,none⟩),ent] w λe w'=>e=.returned (.tuple #[.slice none 0 0,.bool false])/\Below w.heap.size w w':=by
 obtain⟨a,b,c,d,rfl⟩:=hent;obtain⟨hne,bb,ev,hB, -⟩:=h;have e0:=hB.cell;unfold vp at e0;rw [hsw] at e0;have hlt:=hB.lt;clear hB;refine zl func311 rfl ?_;simp only [ntmps311,R8,Nat.reduceAdd,Nat.reduceSub];go_wp2;go_step3;go_wp2;rw [Exit.noGoto_ret];exact jI (v:=.tuple #[.slice none 0 0,.bool false]) (by simp [results,Tryz.results311,go_sem]) ⟨rfl,pbx⟩
theorem zaS(B:Nat)(f:yJ)(t:List Nat)(ht:t≠ [])(ow:Own)(ent:Value)(hent:∃a b c d,ent=.agg #[a,b,c,d])(hsw:f.sw=true)(w:World)(h:zH B f t ow w)(hl:f.eras.length<=536870912):
 Calls prog 311 #[.pointer (some ⟨B,0,none⟩),ent] w (QR B (vG f (x6 (vk f.eras) f.eras 0) false) t ow w (.tuple #[.slice none 0 0,.bool true])):=by
 obtain⟨a,b,c,d,rfl⟩:=hent;have h0:=h;have hall:=zgt B f t ow;obtain⟨hne,bb,ev0,hB, -⟩:=h;have e0:=hB.cell;unfold vp at e0;rw [hsw] at e0;have hlt:=hB.lt;clear hB;replace h0:=hid h0;replace hall:=hid hall;refine zl func311 rfl ?_;simp only [ntmps311,R8,Nat.reduceAdd,Nat.reduceSub];go_wp2;go_step3;go_wp2;go_step3
 go_wp2_with (go_at_call 227;refine(hall.out _ ((zH.loc B f t).below h0.out (pbx))).mono ?_;rintro e w1 ⟨ev,rfl,rfl,hR,o2⟩;replace o2:Hid (∀_,_):=o2)
 obtain⟨fb,hfb⟩:∃fb,fb=w.heap.size:=⟨_,rfl⟩;obtain⟨W0,hW0⟩:∃W0,W0=((((w.alloc (.cells #[.pointer (some ⟨B,0,none⟩)] 111)).alloc (.cells #[a,b,c,d] 241)).alloc (.cells #[.int .i64 0] 3)).alloc (.cells #[ev] 217)):=⟨_,rfl⟩;have hsz:W0.heap.size=fb+4:=by rw [hW0,hfb];simp
 have hb0:Below w.heap.size w W0:=by rw [hW0];exact pbx
 have kf:Blk W0 fb #[.pointer (some ⟨B,0,none⟩)] 111:=by rw [hW0,hfb];exact bkx
 have kv:Blk W0 (fb+1+1) #[.int .i64 0] 3:=by rw [hW0,hfb];exact bkx
 have kc:Blk W0 (fb+1+1+1) #[ev] 217:=by rw [hW0,hfb];exact bkx
 have hR0:Row W0 197 3 ev f.eras.length (f.eras.flatMap jd):=by rw [hW0];exact hR.below ((N2 _ _).alloc (N0 _) _)
 have hlw:B<fb:=by rw [hfb];exact hlt
 have hfw:w.heap.size<=fb:=by omega
 rw [← hW0,← hfb];replace hfb:=hid hfb;clear hW0 e0 hR o2;obtain⟨⟨ep,ve,st⟩,hn⟩:∃n,vk f.eras=n:=⟨_,rfl⟩;have hnow:=Vz B f t ow;rw [hn] at hnow;replace hn:=hid hn;unfold Js at hnow;replace hnow:=hid hnow
 refine yS (gf:=322) (lb:=#[.pointer (some ⟨fb+1+1+1,0,none⟩)]) rfl (enters_of func322 (by kernel_rfl) rfl)
  (Vy (fb+1+1+1) ev f.eras (by omega)) (λ_=>rfl)
  (λk X W=>zdK f.eras (ep,ve,st) (fb+1+1) W0 k X W)
  (λc X W=>c=.exit 0/\Fr (λk=>k=fb+1+1) W0 X W/\Blk W (fb+1+1) #[.int .i64 (x6 (ep,ve,st) f.eras 0)] 3)
  (λk X X' W W' h hm hx=>h.stab (by omega) hm hx)
  (λc s X X' W W' h hm hx=>⟨h.1,h.2.1.step hm hx,h.2.2.kept (h.2.1.block hm (by omega))⟩)
  (λk X W h=>⟨kc.mod h.1.2 (by omega),(hR0.mod h.1.2 (λg hg e=>hR0.ne_blk kv (by decide) hg e)).src⟩)
  (λk X W h=>⟨h.1.2.size,λk hk=>(h.1.1 k hk).2⟩)
  ⟨Fr.refl _ _,Nat.zero_le _,0,kv,rfl⟩
  7 197 (λx=> #[.int .u32 x.1,.int .i64 x.2.1,.int .i64 x.2.2]) ?assign ?body ?done ?stop
 case assign=>
  intro l' x W K hK;rw [zZ] at hK⊢;unfold Js at hK⊢
  gi_wp2
  exact hK
 case body=>
  rintro l' k x cb X X1 W1 W h1⟨hfr,hk,v,kv',ha⟩ hnx hcb hcw hXc kx hXl _;obtain⟨xe,xv,xs⟩:=x;have kf':=kf.mod hfr.2 (by omega);have hbW:Below w.heap.size w W:=hb0.trans (hfr.below (by have:=hb0.size;omega) (λk hk=>by omega));have hF:zH B f t ow W:=(zH.loc B f t).below h0.out hbW;have heq:=zjS xe xv xs ep ve st;obtain⟨q,hqd⟩:∃q:Bool,((xe:Int)==ep &&(xv==ve && xs==st))=q:=⟨_,rfl⟩;rw [hqd] at heq;replace hqd:=hid hqd
  have hdr:f.eras.drop k=(xe,xv,xs)::f.eras.drop (k+1):=by
   have hlt:=(N6.1 hnx);rw [List.drop_eq_getElem_cons hlt.1,hlt.2]
  rw [hdr] at ha;have hkl:=(N6.1 hnx).1;replace hF:=hid hF;replace ha:=hid ha;replace hdr:=hid hdr;replace hnx:=hid hnx;rw [zZ];unfold Js;simp only at kx
  gi_wp2
  refine jJ [O 0,O 1,E 2,O 3] none (λw'=>Blk w' cb #[.int .u32 xe,.int .i64 xv,.int .i64 xs] 197/\Blk w' fb #[.pointer (some ⟨B,0,none⟩)] 111/\True) (by kernel_rfl) (by kernel_rfl) ⟨kx.drew,kf'.drew,trivial⟩ ?_
  (repeat (refine za (v:=?_) rfl rfl (λw' h=>?_) (λK k=>?_);rotate_left;obtain⟨f1,f2,_⟩:=h;have e1:=f1.cell;have e2:=f2.cell;go_simp;(try with_reducible rfl);go_simp;refine k _ ?_;clear k K))
  refine zc rfl (λK hK=>?_)
  go_wp2_with (go_at_call 308;refine(hnow.out _ ((zH.loc B f t).below hF.out (Below.drew (N2 _ _))) (by omega)).mono ?_;rintro e w1 ⟨rfl,hb1⟩)
  have kx1:=kx.drew.call hb1;have kf1:=kf'.drew.call hb1;have kv1:=kv'.drew.call hb1;refine hK.out _ _ (λ_=>⟨kx1,kf1,trivial⟩) ?_;clear hK K
  (repeat (refine za (v:=?_) rfl rfl (λw' h=>?_) (λK k=>?_);rotate_left;obtain⟨f1,f2,_⟩:=h;have e1:=f1.cell;have e2:=f2.cell;go_simp;(try with_reducible rfl);go_simp;refine k _ ?_;clear k K))
  refine ze ?_;have hbm:Below W.heap.size W w1:=pbx;clear heq kx1 kf1 kf'
  cases q
  ·have hq:¬(xe,xv,xs)=(ep,ve,st):=λh=>by
    have:=hqd.out;simp only [Prod.mk.injEq] at h;obtain⟨rfl,rfl,rfl⟩:=h;simp at this
   have hav:x6 (ep,ve,st) (f.eras.drop (k+1)) xv=x6 (ep,ve,st) f.eras 0:=by
    rw [← ha.out,VB,if_neg hq]
   have kx1:=kx.call hbm;have ex:=kx1.cell;have evv:=kv1.cell;have fvv:=kv1.frozen;have lv1:=kv1.lt;clear hq;replace hav:=hid hav
   gi_wp2
   have hm:Mod (λk=>k=fb+1+1) W (w1.setCell ⟨fb+1+1,0,none⟩ (.int .i64 xv)):=(Mod.of_below (λk=>k=fb+1+1) hbm).thenSet (p:=⟨fb+1+1,0,none⟩) rfl _;exact⟨⟨hfr.mod hm (λk _ h=>h),by omega,xv,kv1.set _,hav.out⟩,jB.of_mod hm (λk _ hX he=>by have:=hfr.1 k hX;omega)⟩
  ·have hq:(xe,xv,xs)=(ep,ve,st):=by
    have:=hqd.out;simp only [Bool.and_eq_true,beq_iff_eq] at this;obtain⟨h1,h2,h3⟩:=this;simp only [Prod.mk.injEq];exact⟨by omega,h2,h3⟩
   have hav:v=x6 (ep,ve,st) f.eras 0:=by rw [← ha.out,VB,if_pos hq]
   clear hq;replace hav:=hid hav
   gi_wp2
   exact⟨⟨rfl,hfr.mod (Mod.of_below (λ_=>False) hbm) (λ_ _ h=>h.elim),by rw [← hav.out];exact kv1⟩,jB.of_mod (Mod.of_below (λ_=>False) hbm) (λ_ _ _ h=>h)⟩
 case done=>
  rintro D k X W hD hXD hfin⟨hfr,hk,v,kv',ha⟩ hdef;obtain rfl:k=f.eras.length:=hfin;rw [List.drop_length] at ha;have hav:v=x6 (ep,ve,st) f.eras 0:=ha;rw [hav] at kv';have hbW:Below w.heap.size w W:=hb0.trans (hfr.below (by have:=hb0.size;omega) (λk hk=>by omega));have kf':=kf.mod hfr.2 (by omega);have ef:=kf'.cell;have evv:=kv'.cell;have hbeg:=VA B f t (ow.cut w) (x6 (ep,ve,st) f.eras 0) false W ((zH.loc B f t).cut h0.out hbW) hl;have hDl:=(N5.1 hdef).1;have hDw:w.heap.size<=D:=by have:=hb0.size;omega
  replace hbeg:=hid hbeg
  go_wp2_with (go_at_call 336;refine hbeg.out.mono ?_;rintro e w2 ⟨rfl,ow2,hs2,hf2⟩;replace hf2:Hid (zH _ _ _ _ _):=hf2)
  rw [Exit.noGoto_ret];have hfree:=hs2.free ht hDw hDl
  exact z8 (D:=D) (v:=.tuple #[.slice none 0 0,.bool true]) (hfree.1.trans hdef) (by simp [results,Tryz.results311,go_sem])
   ⟨rfl,ow2,(zq.wrap hbW hs2).putNew D _ hDw,by rw [hn.out];exact(zH.loc B _ t).put ht hf2.out hfree.2 _⟩
 case stop=>
  rintro D c X W hD hXD⟨rfl,hfr,kv'⟩ hdef;have hbW:Below w.heap.size w W:=hb0.trans (hfr.below (by have:=hb0.size;omega) (λk hk=>by omega));have kf':=kf.mod hfr.2 (by omega);have ef:=kf'.cell;have evv:=kv'.cell;have hbeg:=VA B f t (ow.cut w) (x6 (ep,ve,st) f.eras 0) false W ((zH.loc B f t).cut h0.out hbW) hl;have hDl:=(N5.1 hdef).1;have hDw:w.heap.size<=D:=by have:=hb0.size;omega
  replace hbeg:=hid hbeg
  go_wp2_with (go_at_call 336;refine hbeg.out.mono ?_;rintro e w2 ⟨rfl,ow2,hs2,hf2⟩;replace hf2:Hid (zH _ _ _ _ _):=hf2)
  rw [Exit.noGoto_ret];have hfree:=hs2.free ht hDw hDl
  exact z8 (D:=D) (v:=.tuple #[.slice none 0 0,.bool true]) (hfree.1.trans hdef) (by simp [results,Tryz.results311,go_sem])
   ⟨rfl,ow2,(zq.wrap hbW hs2).putNew D _ hDw,by rw [hn.out];exact(zH.loc B _ t).put ht hf2.out hfree.2 _⟩
end
open Go
theorem YK:∀(n:Nat)(ws:List (MId×zy)) (x:zy),zcd ws->(zU n ws x).2.length+(zU n ws x).1.length<=(del x.1 ws).length+1
 |0,ws,x,_=>by simp [zU];omega
 |n+1,ws,x,hw=>by
  unfold zU
  cases hl:zD (x.1.1,(x.1.2+1)% 4294967296) (del x.1 ws)with
  |none=>simp;omega
  |some y=>
   have h1:=YK n (del x.1 ws) y (hw.del _);have hy:y.1=(x.1.1,(x.1.2+1)% 4294967296):=((hw.del x.1) _ (xz hl)).1;have hlen:=QO hl;rw [← hy] at hlen;simp;omega
theorem zgw {V:Type}(k:MId)(v:V):∀l:List (MId×V),(put k v l).length<=l.length+1
 | []=>by simp [put]
 |(k',v')::l=>by
  have ih:=zgw k v l;unfold put
  split
  ·simp
  ·simp;exact ih
def qz(b:vw):Nat:=b.log.length+b.ws.length
theorem zix(b:vw)(m:zy):(xo b m).1.log=b.log++(xo b m).2.1:=by
 unfold xo
 split
 ·simp
 ·split
  ·split<;>simp
  ·simp
theorem zkJ {b:vw}(hok:vO b)(m:zy):qz (xo b m).1<=qz b+1:=by
 unfold xo qz
 split
 ·simp
 ·split
  ·split
   ·simp
   ·have:=zgw m.1 m b.ws;simp;omega
  ·have h1:=YK b.ws.length b.ws m hok.keys
   have h2:=Yg m.1 b.ws;simp;omega
theorem ziy {ws:List (MId×zy)}(h:zcd ws){m:zy}(hm:zB m=true):zcd (put m.1 m ws):=by
 induction ws with
 |nil=>intro p hp;simp [put] at hp;subst hp;exact⟨rfl,hm⟩
 |cons q l ih=>
  obtain⟨k,v⟩:=q;intro p hp;unfold put at hp
  split at hp
  ·rcases List.mem_cons.1 hp with rfl|h1
   ·exact⟨rfl,hm⟩
   ·exact h p (U7 _ h1)
  ·rcases List.mem_cons.1 hp with rfl|h1
   ·exact h _ (List.mem_cons_self ..)
   ·exact ih (λq hq=>h q (U7 _ hq)) p h1
theorem zgx {b:vw}(hok:vO b)(m:zy):vO (xo b m).1:=by
 unfold xo
 split
 ·exact hok
 ·rename_i hr
  have hr':zB m=true:=by simpa using hr
  split
  ·split
   ·exact hok
   ·exact⟨hok.sixteen,hok.most,ziy hok.keys hr'⟩
  ·exact hok.row hr' _
theorem YL(b:vw):∀(l:List zy)(m:zy),zV b (l++ [m])=((xo (zV b l).1 m).1,(zV b l).2++(xo (zV b l).1 m).2.1)
 | [],m=>by simp [zV]
 |x::l,m=>by
  have ih:=YL (xo b x).1 l m;simp [zV,ih]
theorem qn {b:vw}(hok:vO b):∀(l:List zy),vO (zV b l).1/\qz (zV b l).1<=qz b+l.length/\(zV b l).1.log=b.log++(zV b l).2
 | []=>⟨hok,N0 _,by simp [zV]⟩
 |m::l=>by
  have h1:=qn (zgx hok m) l;have h2:=zkJ hok m;have h3:=zix b m;refine⟨h1.1,?_,?_⟩
  ·have:=h1.2.1;simp only [zV,List.length_cons];omega
  ·simp only [zV];rw [h1.2.2,h3,List.append_assoc]
theorem VC {b:vw}(hok:vO b)(l:List zy):(zV b l).2.length<=qz b+l.length:=by
 have h:=qn hok l;have h2:=congrArg List.length h.2.2;have h3:=h.2.1;rw [N1] at h2;unfold qz at h3⊢;omega
theorem zeH:vO xL:=⟨rfl,by simp [xL],by simp [xL]⟩
