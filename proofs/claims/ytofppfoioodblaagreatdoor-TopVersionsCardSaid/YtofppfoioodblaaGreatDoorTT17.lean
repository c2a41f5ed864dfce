/- PARTS OF THE PROOF. -/
import Derived.Shelf.SlSortCmp.WholeK
import Derived.Ground.SlsfProg
import Derived.Test.YtofppfoioodblaaGreatDoorProg
import Derived.Test.YtofppfoioodblaaGreatDoorTT02
import Derived.Test.YtofppfoioodblaaGreatDoorTT09
import Derived.Test.YtofppfoioodblaaGreatDoorTT12
import Derived.Test.YtofppfoioodblaaGreatDoorTT16
set_option maxRecDepth 8000
set_option maxHeartbeats 4000000
namespace Go.Proofs.YtofppfoioodblaaGreatDoor
open Go Go.RowKit Go.Shelf Go.Extern.Stop Go.Stop Go.Extern
attribute [local go_sem] Oper.semAt_some zv zm
theorem ze6(v:Value)(hv:∃a n c,v=.slice a n c)(w:World):Calls Tryz.prog 259 #[v] w λe w'=>
 e=.returned (.func (.func 306) #[] #[.pointer (some ⟨w.heap.size,0,none⟩)])/\w'=w.alloc (.cells #[v] 107):=by
 obtain⟨a,n,c,rfl⟩:=hv
 go_enter Tryz.func259,Tryz.ntmps259
 go_wp2;go_ret
 exact⟨rfl,rfl⟩
theorem zcT(cb:Nat)(a:Option Addr)(c:Nat):
 XG Fence.wide 2 Tryz.prog 306 #[.pointer (some ⟨cb,0,none⟩)] (λx:List UInt8=> #[.string (bs x)])
  (λ(_:Unit) _=>False) (λk _=>k) (λ_=>True) (λ_ W=>Blk W cb #[.slice a 0 c] 107) ():=by
 intro lp J Jx W hJ hJx hRd hY h0;have e0:=(hRd _ _ _ h0).cell;have hF:Fence.wide.fn 306:=trivial;have hro:Fence.wide.round=none:=rfl;refine callsIn_of_wp Tryz.func306 rfl hF ?_ hro;simp only [Tryz.ntmps306,R8,Nat.reduceAdd,Nat.reduceSub]
 gi_wp2
 gi_loopw [7] (λp wr=>p=.int .i64 0/\∃X,J () X wr) (λ_ _=>0)
 case atStart=>exact⟨rfl,_,h0⟩
 case round=>
  obtain⟨rfl,X,hJs⟩:=hrel
  gi_wp2
  go_end0
  exact⟨⟨_,rfl⟩,.inl ⟨(),X,trivial,hJs⟩⟩
def ziQ(w:World)(e:Ending)(w':World):Prop:=
 ∃cb a c,e=.returned (.func (.func 306) #[] #[.pointer (some ⟨cb,0,none⟩)])/\Below w.heap.size w w'/\Blk w' cb #[.slice a 0 c] 107/\w.heap.size<=cb
theorem zcU(w:World):Calls Tryz.prog 210 #[.string ⟨#[]⟩] w (ziQ w):=by
 have hr:=λW=>Qd [] (by simp) W
 replace hr:=hid hr
 go_enter Tryz.func210,Tryz.ntmps210
 go_wp2_with fail
 refine(hr.out _).mono ?_;rintro e w1⟨v,rfl,hb1,hs, -⟩
 obtain⟨va,vc,rfl⟩:∃a c,v=.slice a 0 c:=by
  rcases hs.2 with⟨rfl, -⟩|⟨b,off,cap,rfl, -⟩
  ·exact⟨_,_,rfl⟩
  ·exact⟨_,_,rfl⟩
 clear hs;go_wp2_with fail
 refine(ze6 _ ⟨_,_,_,rfl⟩ _).mono ?_;rintro e w2⟨rfl,rfl⟩;go_wp2;go_ret
 exact⟨w1.heap.size,va,vc,rfl,zi hb1 _,Blk.new rfl,hb1.size⟩
theorem YS(B:Nat)(lv:Value)(s:yb)(w:World)(hB:Blk w B (xR lv s) 155):
 Calls Tryz.prog 158 #[.pointer (some ⟨B,0,none⟩)] w λe w'=>e=.returned (.string ⟨#[]⟩)/\Below w.heap.size w w':=by
 unfold xR at hB;have e0:=hB.cell;have l0:=hB.lt;refine zl Tryz.func158 rfl ?_;simp only [Tryz.ntmps158,R8,Nat.reduceAdd,Nat.reduceSub];go_wp2;go_step3;go_wp2;go_step3;go_wp2_with fail
 refine(zcU _).mono ?_;rintro e W0⟨cb,va,vc,rfl,hb1,kc0,hcb⟩;have k0:Blk W0 w.heap.size #[.string ⟨#[]⟩] 9:=Blk.call (bkx) hb1;have hb0:Below w.heap.size w W0:=pbx;have hz:=k0.lt;simp at hcb
 clear e0;go_wp2_with fail
 refine yT (gf:=306) (lb:=#[.pointer (some ⟨cb,0,none⟩)]) rfl (enters_of Tryz.func306 (by kernel_rfl) rfl)
  (zcT cb va vc) (λ_=>rfl)
  (λ_ X W=>Fr (λ_=>False) W0 X W) (λ_ _ _=>False)
  (λ_ X X' W W' h hm hx=>h.step hm hx) (λ_ _ X X' W W' h hm hx=>h) (λ_ X W h=>kc0.mod h.2 (λh=>h)) (Fr.refl _ _)
  (λx=>[(4,.string (bs x))]) ?assign ?body ?done ?stop
 case assign=>
  intro l' x W K hK;rw [zZ] at hK⊢
  gi_wp2
  exact hK
 case body=>rintro l' k x X W _ h;exact h.elim
 case done=>
  rintro D k X W hD hXD hfin hfr hdef;have hbW:Below w.heap.size w W:=hb0.trans (hfr.below (by omega) (λk hk=>hk.elim));have kW:=k0.mod hfr.2 (λh=>h);have eW:=kW.cell;go_wp2;rw [Exit.noGoto_ret];exact z8 (D:=D) (v:=.string ⟨#[]⟩) hdef (by simp [results,Tryz.results158,go_sem]) ⟨rfl,zN hbW (by omega) _⟩
 case stop=>rintro D c X W hD hXD h;exact h.elim
theorem Src.mod {X:Nat->Prop}{w w':World}{v:Value}{size n:Nat}{xs:List Value}(h:Src w v size n xs)(hm:Mod X w w')(hx:∀a l c,v=.slice (some a) l c->¬X a.block):Src w' v size n xs:=by
 refine⟨h.1,?_⟩
 rcases h.2 with h0|⟨b,off,cap,rfl,hc,hr⟩
 ·exact .inl h0
 ·exact .inr ⟨b,off,cap,rfl,hc,λj u hu=>(hm.cell (p:=⟨b,off+j,none⟩) (jH (hr j u hu)) (show¬X b from hx ⟨b,off,none⟩ _ _ rfl)).trans (hr j u hu)⟩
theorem ziR(s:List UInt8):(vF s).2<=s.length:=by
 have key:∀(n:Nat)(s:List UInt8),(xq n s).2<=s.length:=by
  intro n
  induction n with
  |zero=>intro s;simp [xq]
  |succ n ih=>
   intro s;unfold xq
   by_cases h:(jm s).2=0
   ·rw [if_pos h];simp
   ·rw [if_neg h]
    have h1:=vV s;have h2:=ih (s.drop (jm s).2);rw [U3] at h2;simp only;omega
 exact key _ s
def Z0(B:Nat)(R:yb×List (List UInt8))(t:List Nat)(ow:Own)(w:World)(e:Ending)(w':World):Prop:=
 ∃v ow',e=.returned (.tuple #[.string ⟨#[]⟩,v,.int .i64 0])/\zq t ow w ow' w'/\jp B R.1 t ow' w'/\Src w' v 1 R.2.length (yD R.2)/\∀a l c,v=.slice (some a) l c->w.heap.size<=a.block/\ow' a.block=[]
theorem Q8(B:Nat)(s:yb)(t:List Nat)(ow:Own)(w:World)(h:jp B s t ow w)(hl:s.log.length<=1073741824):
 Calls Tryz.prog 107 #[.pointer (some ⟨B,0,none⟩)] w (Z0 B (jr s) t ow w):=by
 obtain⟨lv,hB,hR,o1,o2⟩:=h;have hBl:=hB.lt;have hle:=ziR s.log;have hcv:=X2 hR.src;have hread:=λW=>Qd s.log hl W
 have hrs:jr s=({s with log:=s.log.take (vF s.log).2,isCut:=false,keep:=0,crashed:=false},(vF s.log).1):=rfl
 have hpost:∀v lv2 W',Mod (λk=>k=B) w W'->Blk W' B (xR lv2 (jr s).1) 155->VG W' 5 lv2 (s.log.take (vF s.log).2).length (u8s (s.log.take (vF s.log).2))->(lv2.ownBlock=none∨lv2.ownBlock=lv.ownBlock)->
  Src W' v 1 (vF s.log).1.length (yD (vF s.log).1)->(∀a l c,v=.slice (some a) l c->w.heap.size<=a.block)->Z0 B (jr s) t ow w (.returned (.tuple #[.string ⟨#[]⟩,v,.int .i64 0])) W':=by
  intro v lv2 W' hM hB2 hR2 hO hS hF;refine⟨v,ow.cut w,rfl,⟨hM.mono (λk _ e=>by subst e;rw [o1];exact Sub.rfl' t),λk hk=>Own.cut_old hk⟩,⟨lv2,hB2,hR2,by rw [Own.cut_old hBl,o1],λg hg=>?_⟩,hS,λa l c h=>⟨hF a l c h,Own.cut_new (hF a l c h)⟩⟩
  rcases hO with h|h
  ·rw [h] at hg;cases hg
  ·rw [h] at hg;rw [Own.cut_old (hR.lt hg),o2 g hg]
 rw [hrs] at hpost⊢;obtain⟨log,cap,isc,keep,cr⟩:=s;simp only at*;obtain⟨⟨rs,good⟩,hgd⟩:∃x,vF log=x:=⟨_,rfl⟩;unfold Q7 at hread;rw [hgd] at hpost hle hread⊢;simp only at hpost hle hread⊢;unfold xR at hB hpost;simp only at hB hpost;have e0:=hB.cell;replace hrs:=hid hrs;replace hgd:=hid hgd;replace hread:=hid hread;have hpost':=hpost;clear hpost;replace o2:=hid o2;obtain⟨a,c,rfl⟩:=hR.shape
 cases a with
 |none=>
  obtain⟨rfl,rfl⟩:log=[] /\c=0:=by
   rcases hR.2 with⟨h0,h1⟩|⟨g,cap,cur,h0, -⟩
   ·simpa using h0
   ·cases h0
  obtain rfl:good=0:=by simpa using hle
  rw [List.length_nil] at hcv hR hB e0;replace hpost':=hid hpost';replace hR:=hid hR;replace hB:=hid hB
  go_enter Tryz.func107,Tryz.ntmps107
  go_wp2_with fail
  refine(hread.out _).mono ?_;rintro e w1⟨v,rfl,hb1,hs1,hf1⟩;have k1:=hB.out.call hb1;have c1:=k1.cell;have f1:=k1.frozen;have l1:=k1.lt
  obtain⟨va,vn,vc,hve⟩:∃a n c,v=.slice a n c:=by
   rcases hs1.2 with⟨rfl, -⟩|⟨b,off,cap,rfl, -⟩
   ·exact⟨_,_,_,rfl⟩
   ·exact⟨_,_,_,rfl⟩
  subst hve;replace hs1:=hid hs1;replace hf1:=hid hf1;clear e0 hcv;go_wp2_with fail
  refine(YS B _ ⟨[],cap,false,0,false⟩ _ ((((k1.set (o:=0) (.slice none 0 0)).set (o:=3) (.bool false)).set (o:=4) (.int .i64 0)).set (o:=5) (.bool false))).mono ?_;rintro e w2⟨rfl,hb2⟩
  have hM1:Mod (λk=>k=B) w1 w2:=
   (((((Mod.refl (λk=>k=B) w1).thenSet (p:=⟨B,0,none⟩) rfl (.slice none 0 0)).thenSet (p:=⟨B,3,none⟩) rfl (.bool false)).thenSet (p:=⟨B,4,none⟩) rfl (.int .i64 0)).thenSet (p:=⟨B,5,none⟩) rfl (.bool false)).thenCall hb2
  have hM5:Mod (λk=>k=B) w ((((w1.setCell ⟨B,0,none⟩ (.slice none 0 0)).setCell ⟨B,3,none⟩ (.bool false)).setCell ⟨B,4,none⟩ (.int .i64 0)).setCell ⟨B,5,none⟩ (.bool false)):=
   ((((Mod.of_below (λk=>k=B) hb1).thenSet (p:=⟨B,0,none⟩) rfl _).thenSet (p:=⟨B,3,none⟩) rfl _).thenSet (p:=⟨B,4,none⟩) rfl _).thenSet (p:=⟨B,5,none⟩) rfl _
  have k5:=((((k1.set (o:=0) (.slice none 0 0)).set (o:=3) (.bool false)).set (o:=4) (.int .i64 0)).set (o:=5) (.bool false)).call hb2;go_wp2;go_ret3
  refine hpost'.out _ _ _ (hM5.thenCall hb2) k5 ?_ ?_ ?_ ?_
  ·exact zd0 _ _
  ·exact .inl rfl
  ·exact hs1.out.mod hM1 (λa l c h e=>by have:=hf1.out a l c h;omega)
  ·exact hf1.out
 |some a=>
  obtain⟨g,hag,hcc,hgR⟩:∃g,a=⟨g,0,none⟩/\log.length<=c/\c<=maxLen:=by
   rcases hR.2 with⟨h0,h1⟩|⟨g,cap,cur,h0, -,h1,h2, -⟩
   ·cases h0
   ·cases h0;exact⟨g,rfl,h1,h2⟩
  subst hag;unfold maxLen at hgR;have hclip:=hR.clip good hle (by simp);have hgB:g≠B:=hR.ne_blk hB (by decide) rfl;have hgl:g<w.heap.size:=hR.lt rfl;have y0:(good:Int)<=(c:Int):=by omega
  have y1:(c:Int)<=9223372036854775807:=by omega
  have htl:(log.take good).length=good:=by rw [N7];omega
  have htu:u8s (log.take good)=(u8s log).take good:=by simp [u8s,List.map_take]
  rw [htl,htu] at hpost';replace htl:=hid htl;replace htu:=hid htu;replace hclip:=hid hclip;replace hpost':=hid hpost';replace hR:=hid hR;replace hB:=hid hB
  go_enter Tryz.func107,Tryz.ntmps107
  go_wp2_with fail
  refine(hread.out _).mono ?_;rintro e w1⟨v,rfl,hb1,hs1,hf1⟩;have k1:=hB.out.call hb1;have c1:=k1.cell;have f1:=k1.frozen;have l1:=k1.lt
  obtain⟨va,vn,vc,hve⟩:∃a n c,v=.slice a n c:=by
   rcases hs1.2 with⟨rfl, -⟩|⟨b,off,cap,rfl, -⟩
   ·exact⟨_,_,_,rfl⟩
   ·exact⟨_,_,_,rfl⟩
  subst hve;replace hs1:=hid hs1;replace hf1:=hid hf1;clear e0 hcv;go_wp2_with fail
  refine(YS B _ ⟨log,cap,false,0,false⟩ _ ((((k1.set (o:=0) (.slice (some<|⟨g,0,none⟩) good good)).set (o:=3) (.bool false)).set (o:=4) (.int .i64 0)).set (o:=5) (.bool false))).mono ?_;rintro e w2⟨rfl,hb2⟩
  have hM1:Mod (λk=>k=B) w1 w2:=
   (((((Mod.refl (λk=>k=B) w1).thenSet (p:=⟨B,0,none⟩) rfl (.slice (some<|⟨g,0,none⟩) good good)).thenSet (p:=⟨B,3,none⟩) rfl (.bool false)).thenSet (p:=⟨B,4,none⟩) rfl (.int .i64 0)).thenSet (p:=⟨B,5,none⟩) rfl (.bool false)).thenCall hb2
  have hM5:Mod (λk=>k=B) w ((((w1.setCell ⟨B,0,none⟩ (.slice (some<|⟨g,0,none⟩) good good)).setCell ⟨B,3,none⟩ (.bool false)).setCell ⟨B,4,none⟩ (.int .i64 0)).setCell ⟨B,5,none⟩ (.bool false)):=
   ((((Mod.of_below (λk=>k=B) hb1).thenSet (p:=⟨B,0,none⟩) rfl _).thenSet (p:=⟨B,3,none⟩) rfl _).thenSet (p:=⟨B,4,none⟩) rfl _).thenSet (p:=⟨B,5,none⟩) rfl _
  have k5:=((((k1.set (o:=0) (.slice (some<|⟨g,0,none⟩) good good)).set (o:=3) (.bool false)).set (o:=4) (.int .i64 0)).set (o:=5) (.bool false)).call hb2;go_wp2;go_ret3
  refine hpost'.out _ _ _ (hM5.thenCall hb2) k5 ?_ ?_ ?_ ?_
  ·refine hclip.out.kept (λg' hg'=>?_)
   cases hg'
   exact(hb2.block g (by simp;have:=hb1.size;omega)).trans ((N4 _ _ _ _ hgB).trans ((N4 _ _ _ _ hgB).trans ((N4 _ _ _ _ hgB).trans ((N4 _ _ _ _ hgB).trans (hb1.block g hgl)))))
  ·exact .inr rfl
  ·exact hs1.out.mod hM1 (λa l c h e=>by have:=hf1.out a l c h;omega)
  ·exact hf1.out
theorem Z1 {W:World}{l:List zy}{b off cap:Nat}(h:Src W (.slice (some ⟨b,off,none⟩) l.length cap) 3 l.length (l.flatMap zh)){k:Nat}{x:zy}(hx:l[k]?=some x):
 W.cell? ⟨b,off+k*3,none⟩=some (.int .i64 x.1.1)/\W.cell? ⟨b,off+k*3+1,none⟩=some (.int .u32 x.1.2)/\W.cell? ⟨b,off+k*3+2,none⟩=some (.string (bs x.2)):=by
 rcases h.2 with⟨h, -⟩|⟨b',off',cap',h, -,hr⟩
 ·cases h
 ·cases h
  have hcell:∀j u,(zh x)[j]?=some u->j<3->W.cell? ⟨b,off+(k*3+j),none⟩=some u:=λj u hu hj=>hr _ u ((xG l k x hx j hj).trans hu)
  exact⟨hcell 0 _ rfl (by omega),hcell 1 _ rfl (by omega),hcell 2 _ rfl (by omega)⟩
theorem zcV(v:Value)(l:List zy)(w:World)(hv:Src w v 3 l.length (l.flatMap zh))(hl:l.length<=1073741824):
 Calls Tryz.prog 266 #[v] w λe w'=>e=.returned (.bool (l.all zB))/\Below w.heap.size w w':=by
 rcases hv.2 with⟨rfl,hn⟩|⟨b,off,cap,rfl,hc, -⟩
 ·obtain rfl:l=[]:=N9 hn
  clear hv
  go_enter Tryz.func266,Tryz.ntmps266
  go_wp2
  go_loop [7] (λp7=>p7=.int .i64 0) (λ_=>0)
  case atStart=>rfl
  case round=>
   subst hrel;go_wp2;go_ret
   exact⟨rfl,N2 _ _⟩
 ·go_enter Tryz.func266,Tryz.ntmps266
  go_wp2
  go_loopw [7] (λp7 wr=>∃k:Nat,k<=l.length/\p7=.int .i64 k/\(l.take k).all zB=true/\Below w.heap.size w wr) (λp7 _=>l.length - (intOf p7).toNat)
  case atStart=>exact⟨0,Nat.zero_le _,rfl,rfl,N2 _ _⟩
  case round=>
   obtain⟨k,hk,rfl,hall,hbw⟩:=hrel
   by_cases hlt:k<l.length
   ·obtain⟨x,hx⟩:∃x,l[k]?=some x:=⟨_,N3 hlt⟩
    obtain⟨c0,c1,c2⟩:=Z1 (hv.below hbw) hx;have htk:(l.take (k+1)).all zB=((l.take k).all zB && zB x):=by rw [List.take_add_one,hx];simp [List.all_append]
    have hlk:=jH c0;obtain⟨⟨xi,xc⟩,xd⟩:=x;simp only at c0 c1 c2 hlk;have hr:=λW=>vH xi xc xd W
    cases hrx:zB ((xi,xc),xd)
    ·rw [hrx] at hr
     have hno:l.all zB=false:=by
      rw [Bool.eq_false_iff];intro h;rw [List.all_eq_true] at h;have:=h _ (List.mem_of_getElem? hx);rw [hrx] at this;cases this
     replace hr:=hid hr;replace hx:=hid hx;replace htk:=hid htk;replace hall:=hid hall;replace hno:=hid hno;go_wp2_with fail
     refine(hr.out _).mono ?_;rintro e w1⟨rfl,hb1⟩;go_wp2;go_ret
     exact⟨by rw [hno.out];rfl,pbx⟩
    ·rw [hrx] at hr htk
     rw [hall] at htk;replace hr:=hid hr;replace hx:=hid hx;replace htk:=hid htk;replace hall:=hid hall;go_wp2_with fail
     refine(hr.out _).mono ?_;rintro e w1⟨rfl,hb1⟩;have hb2:Below w.heap.size w w1:=pbx;go_wp2
     go_roundw
     case rel=>exact⟨k+1,by omega,by go_num,htk.out,hb2⟩
     case measure=>simp [intOf];omega
   ·obtain rfl:k=l.length:=by omega
    rw [List.take_length] at hall;replace hall:=hid hall;go_wp2;go_ret
    exact⟨by rw [hall.out];rfl,hbw⟩
theorem zbo {p:vU}{l:List zy}{k:Nat}{x:zy}(hx:l[k]?=some x):(l.take (k+1)).foldl yM p=yM ((l.take k).foldl yM p) x:=by
 rw [List.take_add_one,hx];simp [List.foldl_append]
def ziS(B:Nat)(p:vU)(t:List Nat)(ow:Own)(w:World)(e:Ending)(w':World):Prop:=
 ∃v,e=.returned v/\zq t ow w ow w'/\jU B p t ow w'
theorem Qe(B:Nat)(p:vU)(t:List Nat)(ow:Own)(v:Value)(l:List zy)(w:World)(h:jU B p t ow w)(hv:Src w v 3 l.length (l.flatMap zh))(hl:l.length<=1073741824)(hvn:∀a n c,v=.slice (some a) n c->¬Sub t (ow a.block)):
 Calls Tryz.prog 217 #[.pointer (some ⟨B,0,none⟩),v] w (ziS B (ZX p l) t ow w):=by
 have h0:=h;obtain⟨hok,wb,db,hB,hwm,hdm,hne,o1,o2,o3⟩:=h;have hnil:=λW hW=>Jy B wb db W hW
 have hright:=λW hW=>zcV v l W hW hl
 unfold xl at hB hnil;have hdp:ZX p l=if l.all zB then l.foldl yM p else p:=rfl
 obtain⟨va,vc,rfl⟩:=hv.shape
 cases hall:l.all zB
 ·rw [hall] at hright
  rw [if_neg (by simp [hall])] at hdp;rw [hdp];replace hdp:=hid hdp;replace hall:=hid hall;replace hnil:=hid hnil;replace hright:=hid hright;replace h0:=hid h0;replace hvn:=hid hvn;clear hwm hdm
  go_enter Tryz.func217,Tryz.ntmps217
  go_wp2_with fail
  refine(hnil.out _ hB).mono ?_;rintro e w1⟨rfl,hw1⟩;obtain rfl:=hw1.symm;go_wp2_with fail
  refine(hright.out _ hv).mono ?_;rintro e w2⟨rfl,hb2⟩;go_wp2;go_ret2
  exact⟨_,rfl,zq.of_below t ow hb2,(jU.loc B p t).below h0.out hb2⟩
 ·rw [hall] at hright
  rw [if_pos hall] at hdp;rw [hdp];replace hdp:=hid hdp;replace hall:=hid hall;replace hnil:=hid hnil;replace hright:=hid hright;replace h0:=hid h0;replace hvn:=hid hvn
  go_enter Tryz.func217,Tryz.ntmps217
  go_wp2_with fail
  refine(hnil.out _ hB).mono ?_;rintro e w1⟨rfl,hw1⟩;obtain rfl:=hw1.symm;go_wp2_with fail
  refine(hright.out _ hv).mono ?_;rintro e W0⟨rfl,hb2⟩;go_wp2
  go_loopw [6,16] (λp6 p16 wr=>∃(k:Nat)(acc:List zy),k<=l.length/\p16=.int .i64 k/\acc.length<=k/\Row wr 78 3 p6 acc.length (acc.flatMap zh)/\(∀g,p6.ownBlock=some g->w.heap.size<=g)/\Mod (λj=>j=wb∨j=db) w wr/\YO ((l.take k).foldl yM p)/\jc wr wb idV (((l.take k).foldl yM p).waits.map λq=>(q.1,vo q.2))/\jc wr db idV (((l.take k).foldl yM p).done.map λq=>(q.1,ZH))) (λ_ p16 _=>l.length - (intOf p16).toNat)
  case atStart=>exact⟨0,[],Nat.zero_le _,rfl,N0 _,z7 _ _ _,by simp [Value.ownBlock],Mod.of_below _ hb2,hok,hwm.kept (hb2.block _ hwm.lt),hdm.kept (hb2.block _ hdm.lt)⟩
  case round=>
   obtain⟨k,acc,hk,rfl,hacc,hrow,hown,hmod,hPok,hPw,hPd⟩:=hrel;have hBr:=hB.mod hmod (λe=>by rcases e with e|e;exact hB.ne_map hwm e;exact hB.ne_map hdm e)
   by_cases hlt:k<l.length
   ·obtain⟨x,hx⟩:∃x,l[k]?=some x:=⟨_,N3 hlt⟩
    have hvr:Src wr (.slice va l.length vc) 3 l.length (l.flatMap zh):=hv.mod hmod (λa n c h e=>by rcases e with e|e;exact hvn.out a n c h (by rw [e,o2];exact Sub.rfl' t);exact hvn.out a n c h (by rw [e,o3];exact Sub.rfl' t))
    obtain⟨b,off,hva⟩:∃b off,va=some ⟨b,off,none⟩:=by
     rcases hvr.2 with⟨h,hn⟩|⟨b',off',cap',h, -, -⟩
     ·omega
     ·cases h;exact⟨_,_,rfl⟩
    subst hva;obtain⟨c0,c1,c2⟩:=Z1 hvr hx;have htk:=zbo (p:=p) hx;have hlk:=jH c0
    generalize(l.take k).foldl yM p=q at*
    obtain⟨⟨xi,xc⟩,xd⟩:=x;simp only at c0 c1 c2 hlk;have hisd:=λW hW=>zdP B q t ow xi xc W hW
    have hq1:yM q ((xi,xc),xd)=if(zD (xi,xc) q.done).isSome then q else {waits:=del (xi,xc) q.waits,done:=put (xi,xc) () q.done} :=rfl
    rw [hq1] at htk;have hPA:jU B q t ow (wr.alloc (.cells #[.int .i64 xi,.int .u32 xc,.string (bs xd)] 78)):=⟨hPok,wb,db,hBr.alloc _,hPw.kept (U4 _ _ _ hPw.lt),hPd.kept (U4 _ _ _ hPd.lt),hne,o1,o2,o3⟩;obtain⟨ra,rn,rc,rfl⟩:=hrow.shape;replace hx:=hid hx;replace hv:=hid hv;replace hvr:=hid hvr;replace hPA:=hid hPA;replace hown:=hid hown
    cases hd:(zD (xi,xc) q.done).isSome
    ·rw [hd] at hisd htk
     rw [if_neg (by simp)] at htk;replace hisd:=hid hisd;replace htk:=hid htk;replace hd:=hid hd;go_wp2_with fail
     refine(hisd.out _ hPA.out).mono ?_;rintro e w1⟨rfl,hb1⟩;clear c0 c1 c2;have hb1r:Below wr.heap.size wr w1:=zg (zi (N2 _ _) _) hb1;have kB1:=hBr.call hb1r;have kX1:Blk w1 wr.heap.size #[.int .i64 xi,.int .u32 xc,.string (bs xd)] 78:=Blk.call (Blk.new rfl) hb1;have kw1:=hPw.kept (hb1r.block _ hPw.lt);have kd1:=hPd.kept (hb1r.block _ hPd.lt);have hBw:B≠wb:=hB.ne_map hwm;have hBd:B≠db:=hB.ne_map hdm;have hXw:wr.heap.size≠wb:=by have:=hPw.lt;omega
     have hXd:wr.heap.size≠db:=by have:=hPd.lt;omega
     obtain⟨od,hud,kd2⟩:=(kd1.kept (w':=w1.drew) rfl).update QM Tryz.underlying229 ((xi,xc):MId) ZH;have hpm:=Yb (λ_:Unit=>ZH) ((xi,xc):MId) () q.done;rw [hpm] at kd2;unfold ZH idV at hud;go_wp2_with fail
     refine zd [O 0,O 1,O 2,O 3,O 4,O 5,E 6,E 7] none (λw'=>Blk w' B #[.map (some wb),.map (some db)] 231/\Blk w' wr.heap.size #[.int .i64 xi,.int .u32 xc,.string (bs xd)] 78/\True) (by kernel_rfl) (by kernel_rfl) ⟨kB1.drew,kX1.drew,trivial⟩ ?_
     (repeat (refine za (v:=?_) rfl rfl (λw' h=>?_) (λK k=>?_);rotate_left;obtain⟨f1,f2,_⟩:=h;have e1:=f1.cell;have e2:=f2.cell;go_simp;(try with_reducible rfl);go_simp;refine k _ ?_;clear k K))
     refine zc rfl (λK hK=>?_);go_wp2;refine hK.out _ _ (λ_=>⟨kB1.drew,kX1.drew,trivial⟩) ?_;clear hK K;refine zc rfl (λK hK=>?_);go_wp2;refine hK.out _ _ (λ_=>⟨kB1.drew.putObj hBd od,kX1.drew.putObj hXd od,trivial⟩) ?_;clear hK K;refine ze ?_;obtain⟨W2,hW2⟩:∃W2,W2=w1.drew.putObj db od:=⟨_,rfl⟩;have kB2:Blk W2 B #[.map (some wb),.map (some db)] 231:=by rw [hW2];exact kB1.drew.putObj hBd od
     have kX2:Blk W2 wr.heap.size #[.int .i64 xi,.int .u32 xc,.string (bs xd)] 78:=by rw [hW2];exact kX1.drew.putObj hXd od
     have kw2:jc W2 wb idV (q.waits.map λq=>(q.1,vo q.2)):=by rw [hW2];exact kw1.kept (w:=w1) (U1 hne)
     rw [← hW2] at kd2;have hm2:Mod (λj=>j=wb∨j=db) wr W2:=by rw [hW2];exact((Mod.of_below (λj=>j=wb∨j=db) hb1r).thenDrew).thenPut (.inr rfl) od
     rw [← hW2];clear hW2 hud kB1 kX1 kw1 kd1;go_wp2_with fail
     obtain⟨odl,hdel,kw3⟩:=(kw2.kept (w':=W2.drew) rfl).delete QM Tryz.underlying228 #[228,76] 0 rfl ((xi,xc):MId);have hpd:=QL vo ((xi,xc):MId) q.waits;rw [hpd] at kw3;unfold idV at hdel;refine zd [O 0,O 1,O 2,O 3,O 4,O 5,E 6] none (λw'=>Blk w' B #[.map (some wb),.map (some db)] 231/\Blk w' wr.heap.size #[.int .i64 xi,.int .u32 xc,.string (bs xd)] 78/\True) (by kernel_rfl) (by kernel_rfl) ⟨kB2.drew,kX2.drew,trivial⟩ ?_
     (repeat (refine za (v:=?_) rfl rfl (λw' h=>?_) (λK k=>?_);rotate_left;obtain⟨f1,f2,_⟩:=h;have e1:=f1.cell;have e2:=f2.cell;go_simp;(try with_reducible rfl);go_simp;refine k _ ?_;clear k K))
     refine zc rfl (λK hK=>?_);refine vt rfl _ _ _ _ rfl rfl rfl hdel ?_;unfold wpList;refine hK.out _ _ (λ_=>⟨kB2.drew.putObj hBw odl,kX2.drew.putObj hXw odl,trivial⟩) ?_;clear hK K;refine ze ?_;obtain⟨W3,hW3⟩:∃W3,W3=W2.drew.putObj wb odl:=⟨_,rfl⟩;have kX3:Blk W3 wr.heap.size #[.int .i64 xi,.int .u32 xc,.string (bs xd)] 78:=by rw [hW3];exact kX2.drew.putObj hXw odl
     have kd3:jc W3 db idV ((put (xi,xc) () q.done).map λq=>(q.1,ZH)):=by rw [hW3];exact kd2.kept (w:=W2) (U1 (Ne.symm hne))
     rw [← hW3] at kw3;have hm3:Mod (λj=>j=wb∨j=db) wr W3:=by rw [hW3];exact(hm2.thenDrew).thenPut (.inl rfl) odl
     rw [← hW3];clear hW3 hdel kB2 kX2 kw2 kd2;have cX3:=kX3.cell;have hrow3:=hrow.mod hm3 (λg hg e=>by have:=hown.out g hg;have h1:=hwm.lt;have h2:=hdm.lt;rcases e with e|e<;>omega);obtain⟨v',W4,hrun,hrow4,hgr,hown4⟩:=zT zcc (hrow3.below ((N2 _ _).alloc (N0 _) (.cells #[.int .i64 xi,.int .u32 xc,.string (bs xd)] 78))) (jM (n:=1) (size:=3) (cap:=1) (Blk.new (w:=W3) (cs:=#[.int .i64 xi,.int .u32 xc,.string (bs xd)]) (t:=78) rfl) rfl (N0 1)) (jq [((xi,xc),xd)]) (by omega) 42;obtain⟨sa,sm,sc,rfl⟩:=hrow4.shape;replace hrow4:=hid hrow4;replace hown4:=hid hown4;replace hrow3:=hid hrow3;replace hrow:=hid hrow;replace kw3:=hid kw3;replace kd3:=hid kd3;replace hPw:=hid hPw;replace hPd:=hid hPd
     go_wp2_with (at_builtin
                  refine zw rfl _ _ _ rfl rfl rfl hrun ?_)
     go_roundw
     case rel=>
      have hm4:Mod (λj=>j=wb∨j=db) w W4:=by
       have hw3:=hmod.trans hm3 (Z:=λj=>j=wb∨j=db) (λ_ _ e=>e) (λ_ _ e=>e);have h5:=(hw3.thenAlloc (.cells #[.int .i64 xi,.int .u32 xc,.string (bs xd)] 78)).trans (Mod.grown (X:=λk=>(Value.slice ra rn rc).ownBlock=some k) hgr (λk h=>h)) (Z:=λj=>(j=wb∨j=db)∨(Value.slice ra rn rc).ownBlock=some j) (λ_ _ e=>.inl e) (λ_ _ e=>.inr e);exact h5.mono (λj hj e=>by rcases e with e|e;exact e;have:=hown.out j e;omega)
      have hgn:∀j,(j=wb∨j=db)->W4.heap[j]?=W3.heap[j]?:=λj hj=>by
       have hjl:j<w.heap.size:=by rcases hj with e|e;rw [e];exact hwm.lt;rw [e];exact hdm.lt
       have hsz3:=hm3.size;have hszr:=hmod.size;exact(hgr.block j (by simp;omega) (λe=>by have:=hown.out j e.symm;omega)).trans (U4 _ _ _ (by omega))
      refine⟨k+1,acc++ [((xi,xc),xd)],by omega,by go_num,by simp;omega,?_,λg hg=>?_,hm4,?_,?_,?_⟩
      ·rw [N1,U2,U5];exact hrow4.out
      ·have h5:=hown4.out
       rw [hg] at h5
       rcases h5 with h|h
       ·exact hown.out g h.symm
       ·have:=hm3.size;have:=hmod.size;simp at h;omega
      ·rw [htk.out];exact hPok.less _ _
      ·rw [htk.out];exact kw3.out.kept (hgn wb (.inl rfl))
      ·rw [htk.out];exact kd3.out.kept (hgn db (.inr rfl))
     case measure=>simp [intOf];omega
    ·rw [hd] at hisd htk
     rw [if_pos rfl] at htk;replace hisd:=hid hisd;replace htk:=hid htk;replace hd:=hid hd;replace hrow:=hid hrow;replace hPw:=hid hPw;replace hPd:=hid hPd;go_wp2_with fail
     refine(hisd.out _ hPA.out).mono ?_;rintro e w1⟨rfl,hb1⟩;have hb1r:Below wr.heap.size wr w1:=zg (zi (N2 _ _) _) hb1;go_wp2
     go_roundw
     case rel=>exact⟨k+1,acc,by omega,by go_num,by omega,hrow.out.below hb1r,hown.out,hmod.thenCall hb1r,by rw [htk.out];exact hPok,by rw [htk.out];exact hPw.out.kept (hb1r.block _ hPw.out.lt),by rw [htk.out];exact hPd.out.kept (hb1r.block _ hPd.out.lt)⟩
     case measure=>simp [intOf];omega
   ·obtain rfl:k=l.length:=by omega
    rw [List.take_length] at hPok hPw hPd;replace hPw:=hid hPw;replace hPd:=hid hPd;obtain⟨ra,rn,rc,rfl⟩:=hrow.shape;go_wp2;go_ret2
    exact⟨_,rfl,⟨hmod.mono (λk _ e=>by rcases e with e|e;subst e;rw [o2];exact Sub.rfl' t;subst e;rw [o3];exact Sub.rfl' t),λ_ _=>rfl⟩,hPok,wb,db,hBr,hPw.out,hPd.out,hne,o1,o2,o3⟩
end Go.Proofs.YtofppfoioodblaaGreatDoor
namespace Go.Proofs
open Go.Shelf
def Tryz.sortPend_ren:Go.Shelf.Ren:=⟨λ|6=>296|15=>331|14=>330|28=>352|29=>324|20=>344|21=>345|22=>346|23=>347|24=>348|25=>349|26=>350|27=>351|46=>356|47=>357|48=>358|49=>359|50=>360|57=>364|n=>n,λ|22=>436|24=>294|25=>438|3=>3|39=>33|0=>0|53=>35|55=>52|4=>4|46=>489|45=>488|50=>380|5=>5|9=>9|66=>499|70=>503|76=>508|77=>509|n=>n,λ|n=>n⟩
theorem Tryz.sortPend:Go.Proofs.SlLaysF0.n6 Tryz.prog Tryz.sortPend_ren:={
 mixed:=by kernel_rfl
 f6:=⟨Tryz.f296.name,by decide,Tryz.func296.trans (congrArg some (by kernel_rfl))⟩
 f14:=⟨Tryz.f330.name,by decide,Tryz.func330.trans (congrArg some (by kernel_rfl))⟩
 f15:=Tryz.func331.trans (congrArg some (by kernel_rfl))
 f20:=⟨Tryz.f344.name,by decide,Tryz.func344.trans (congrArg some (by kernel_rfl))⟩
 f21:=⟨Tryz.f345.name,by decide,Tryz.func345.trans (congrArg some (by kernel_rfl))⟩
 f22:=⟨Tryz.f346.name,by decide,Tryz.func346.trans (congrArg some (by kernel_rfl))⟩
 f23:=⟨Tryz.f347.name,by decide,Tryz.func347.trans (congrArg some (by kernel_rfl))⟩
 f24:=⟨Tryz.f348.name,by decide,Tryz.func348.trans (congrArg some (by kernel_rfl))⟩
 f25:=⟨Tryz.f349.name,by decide,Tryz.func349.trans (congrArg some (by kernel_rfl))⟩
 f26:=⟨Tryz.f350.name,by decide,Tryz.func350.trans (congrArg some (by kernel_rfl))⟩
 f27:=⟨Tryz.f351.name,by decide,Tryz.func351.trans (congrArg some (by kernel_rfl))⟩
 f28:=Tryz.func352.trans (congrArg some (by kernel_rfl))
 f29:=Tryz.func324.trans (congrArg some (by kernel_rfl))
 f46:=⟨Tryz.f356.name,by decide,Tryz.func356.trans (congrArg some (by kernel_rfl))⟩
 f47:=Tryz.func357.trans (congrArg some (by kernel_rfl))
 f48:=Tryz.func358.trans (congrArg some (by kernel_rfl))
 f49:=⟨Tryz.f359.name,by decide,Tryz.func359.trans (congrArg some (by kernel_rfl))⟩
 f50:=⟨Tryz.f360.name,by decide,Tryz.func360.trans (congrArg some (by kernel_rfl))⟩
 f57:=⟨Tryz.f364.name,by decide,Tryz.func364.trans (congrArg some (by kernel_rfl))⟩
 t0:=Tryz.underlying0
 a0:=Tryz.isAgg0
 z0:=Tryz.sizeOf0
 v0:=Tryz.zeroValue0
 t3:=Tryz.underlying3
 a3:=Tryz.isAgg3
 z3:=Tryz.sizeOf3
 v3:=Tryz.zeroValue3
 t4:=Tryz.underlying4
 a4:=Tryz.isAgg4
 z4:=Tryz.sizeOf4
 v4:=Tryz.zeroValue4
 t5:=Tryz.underlying5
 a5:=Tryz.isAgg5
 z5:=Tryz.sizeOf5
 v5:=Tryz.zeroValue5
 t9:=Tryz.underlying9
 a9:=Tryz.isAgg9
 z9:=Tryz.sizeOf9
 v9:=Tryz.zeroValue9
 t22:=Tryz.underlying436
 a22:=Tryz.isAgg436
 z22:=Tryz.sizeOf436
 v22:=Tryz.zeroValue436
 t25:=Tryz.underlying438
 a25:=Tryz.isAgg438
 z25:=Tryz.sizeOf438
 v25:=Tryz.zeroValue438
 t39:=Tryz.underlying33
 a39:=Tryz.isAgg33
 z39:=Tryz.sizeOf33
 v39:=Tryz.zeroValue33
 t45:=Tryz.underlying488
 a45:=Tryz.isAgg488
 z45:=Tryz.sizeOf488
 v45:=Tryz.zeroValue488
 t46:=Tryz.underlying489
 a46:=Tryz.isAgg489
 z46:=Tryz.sizeOf489
 v46:=Tryz.zeroValue489
 t50:=Tryz.underlying380
 a50:=Tryz.isAgg380
 z50:=Tryz.sizeOf380
 v50:=Tryz.zeroValue380
 t53:=Tryz.underlying35
 a53:=Tryz.isAgg35
 z53:=Tryz.sizeOf35
 v53:=Tryz.zeroValue35
 t55:=Tryz.underlying52
 a55:=Tryz.isAgg52
 z55:=Tryz.sizeOf52
 v55:=Tryz.zeroValue52
 t66:=Tryz.underlying499
 a66:=Tryz.isAgg499
 z66:=Tryz.sizeOf499
 v66:=Tryz.zeroValue499
 t70:=Tryz.underlying503
 a70:=Tryz.isAgg503
 z70:=Tryz.sizeOf503
 v70:=Tryz.zeroValue503
 t76:=Tryz.underlying508
 a76:=Tryz.isAgg508
 z76:=Tryz.sizeOf508
 v76:=Tryz.zeroValue508
 t77:=Tryz.underlying509
 a77:=Tryz.isAgg509
 z77:=Tryz.sizeOf509
 v77:=Tryz.zeroValue509}
end Go.Proofs
namespace Go.Proofs.YtofppfoioodblaaGreatDoor
open Go Go.RowKit Go.Shelf Go.Extern.Stop Go.Stop Go.Extern Go.Lib Go.Sort
attribute [local go_sem] Oper.semAt_some zv zm
theorem ze7(x:Nat)(w:World):Calls Tryz.prog 354 #[.int .u32 x] w λe w'=>e=.returned (.bool false)/\w'=w:=by
 have t0:((x:Int) !=(x:Int))=false:=by simp
 go_enter Tryz.func354,Tryz.ntmps354
 go_wp2;go_ret
 exact⟨rfl,rfl⟩
theorem ziT(x y:Nat)(w:World):Calls Tryz.prog 334 #[.int .u32 x,.int .u32 y] w λe w'=>e=.returned (.int .i64 (Lib.compareInt x y))/\w'=w:=by
 unfold Lib.compareInt;have hn:=λz=>ze7 z w
 replace hn:=hid hn
 by_cases h1:(x:Int)<y
 ·rw [if_pos h1]
  have t1:decide (x<y)=true:=by simpa using h1
  replace h1:=hid h1
  go_enter Tryz.func334,Tryz.ntmps334
  go_wp2_with (go_at_call 354;refine(hn.out _).mono ?_;rintro e w1 ⟨rfl,hw1⟩;obtain rfl:=hw1.symm)
  go_ret
  exact⟨rfl,rfl⟩
 ·rw [if_neg h1]
  have t1:decide (x<y)=false:=by simpa using h1
  replace h1:=hid h1
  by_cases h2:(y:Int)<x
  ·rw [if_pos h2]
   have t2:decide (y<x)=true:=by simpa using h2
   replace h2:=hid h2
   go_enter Tryz.func334,Tryz.ntmps334
   go_wp2_with (go_at_call 354;refine(hn.out _).mono ?_;rintro e w1 ⟨rfl,hw1⟩;obtain rfl:=hw1.symm)
   go_ret
   exact⟨rfl,rfl⟩
  ·rw [if_neg h2]
   have t2:decide (y<x)=false:=by simpa using h2
   replace h2:=hid h2
   go_enter Tryz.func334,Tryz.ntmps334
   go_wp2_with (go_at_call 354;refine(hn.out _).mono ?_;rintro e w1 ⟨rfl,hw1⟩;obtain rfl:=hw1.symm)
   go_ret
   exact⟨rfl,rfl⟩
theorem zj7(b:Nat)(x y:Int)(w:World)(h0:w.cell? ⟨b,0,none⟩=some (.int .i64 x))(h1:w.cell? ⟨b,1,none⟩=some (.int .i64 y)):
 Calls Tryz.prog 332 #[.slice (some ⟨b,0,none⟩) 2 2] w λe w'=>e=.returned (.int .i64 (if x≠0 then x else y))/\w'=w:=by
 go_enter Tryz.func332,Tryz.ntmps332
 go_wp2
 go_loop [8] (λp8=>∃k:Nat,k<=2/\p8=.int .i64 k/\(1<=k->x=0)/\(2<=k->y=0)) (λp8=>2 - (intOf p8).toNat)
 case atStart=>exact⟨0,by omega,rfl,by simp,by simp⟩
 case round=>
  obtain⟨k,hk,rfl,hx,hy⟩:=hrel
  rcases(by omega:k=0∨k=1∨k=2)with rfl|rfl|rfl
  ·by_cases hx0:x=0
   ·have t0:(x !=0)=false:=by simp [hx0]
    replace hx0:=hid hx0;go_wp2
    go_round
    case rel=>exact⟨1,by omega,by go_num,λ_=>hx0.out,by omega⟩
    case measure=>simp [intOf]
   ·have t0:(x !=0)=true:=by simpa using hx0
    have hv:(if x≠0 then x else y)=x:=if_pos hx0;replace hx0:=hid hx0;replace hv:=hid hv;go_wp2;go_ret
    first|exact⟨rfl,rfl⟩|exact⟨by rw [hv.out],rfl⟩
  ·have hx0:x=0:=hx (by omega)
   have hv:(if x≠0 then x else y)=y:=if_neg (by simp [hx0]);replace hx0:=hid hx0
   by_cases hy0:y=0
   ·have t0:(y !=0)=false:=by simp [hy0]
    replace hy0:=hid hy0;replace hv:=hid hv;go_wp2
    go_round
    case rel=>exact⟨2,by omega,by go_num,λ_=>hx0.out,λ_=>hy0.out⟩
    case measure=>simp [intOf]
   ·have t0:(y !=0)=true:=by simpa using hy0
    replace hy0:=hid hy0;replace hv:=hid hv;go_wp2;go_ret
    first|exact⟨rfl,rfl⟩|exact⟨by rw [hv.out],rfl⟩
  ·have hx0:x=0:=hx (by omega)
   have hy0:y=0:=hy (by omega);have hv:(if x≠0 then x else y)=0:=by rw [if_neg (by simp [hx0]),hy0]
   replace hx0:=hid hx0;replace hy0:=hid hy0;replace hv:=hid hv;go_wp2;go_ret
   first|exact⟨rfl,rfl⟩|exact⟨by rw [hv.out],rfl⟩
def zjB(a b:zy):Int:=if Lib.compareInt a.1.1 b.1.1≠0 then Lib.compareInt a.1.1 b.1.1 else Lib.compareInt (a.1.2:Nat) (b.1.2:Nat)
theorem zcW(x y:zy)(w:World):Calls Tryz.prog 297 #[.agg (zh x).toArray,.agg (zh y).toArray] w λe w'=>e=.returned (.int .i64 (zjB x y))/\∃q os',w'=grow (w.drewN q) os':=by
 obtain⟨⟨xi,xc⟩,xd⟩:=x;obtain⟨⟨yi,yc⟩,yd⟩:=y;unfold zh zjB;simp only;have hc1:=λW=>Tryz.cmp_Compare_int xi yi W
 have hc2:=λW=>ziT xc yc W
 generalize Lib.compareInt xi yi=r1 at*
 generalize Lib.compareInt (xc:Int) (yc:Int)=r2 at*
 have hor:=λb W h0 h1=>zj7 b r1 r2 W h0 h1
 generalize(if r1≠0 then r1 else r2)=r at*
 replace hc1:=hid hc1;replace hc2:=hid hc2;replace hor:=hid hor;obtain⟨W1,hW1⟩:∃W1,W1=(w.alloc (.cells #[.int .i64 xi,.int .u32 xc,.string (bs xd)] 294)).alloc (.cells #[.int .i64 yi,.int .u32 yc,.string (bs yd)] 294):=⟨_,rfl⟩;have kx:Blk W1 w.heap.size #[.int .i64 xi,.int .u32 xc,.string (bs xd)] 294:=by rw [hW1];exact(Blk.new rfl).alloc _
 have ky:Blk W1 (w.heap.size+1) #[.int .i64 yi,.int .u32 yc,.string (bs yd)] 294:=by rw [hW1];exact Blk.new (by simp)
 replace hW1:=hid hW1
 go_enter Tryz.func297,Tryz.ntmps297
 go_wp2_with fail
 rw [← hW1.out];refine zd [O 0,O 1,O 2,O 3,O 4,O 5,O 6,O 7,O 9,O 10,O 11,O 12,O 13,O 14,O 15,O 16,E 8,E 17,E 18,E 19,O 20] none (λw'=>Blk w' w.heap.size #[.int .i64 xi,.int .u32 xc,.string (bs xd)] 294/\Blk w' (w.heap.size+1) #[.int .i64 yi,.int .u32 yc,.string (bs yd)] 294/\True) (by kernel_rfl) (by kernel_rfl) ⟨kx.drew,ky.drew,trivial⟩ ?_
 (repeat (refine za (v:=?_) rfl rfl (λw' h=>?_) (λK k=>?_);rotate_left;obtain⟨f1,f2,_⟩:=h;have e1:=f1.cell;have e2:=f2.cell;go_simp;(try with_reducible rfl);go_simp;refine k _ ?_;clear k K))
 refine zc rfl (λK hK=>?_);go_wp2_with fail
 refine(hc1.out _).mono ?_;rintro e w2⟨rfl,hw2⟩;obtain rfl:=hw2.symm;go_wp2;refine hK.out _ _ (λ_=>⟨kx.drew,ky.drew,trivial⟩) ?_;clear hK K;refine zc rfl (λK hK=>?_);go_wp2_with fail
 refine(hc2.out _).mono ?_;rintro e w3⟨rfl,hw3⟩;obtain rfl:=hw3.symm;go_wp2;refine hK.out _ _ (λ_=>⟨kx.drew,ky.drew,trivial⟩) ?_;clear hK K;refine zc rfl (λK hK=>?_);go_wp2;refine hK.out _ _ (λ_=>⟨kx.drew.alloc _,ky.drew.alloc _,trivial⟩) ?_;clear hK K;refine zc rfl (λK hK=>?_);go_wp2_with fail
 refine(hor.out _ _ (by simp) (by simp)).mono ?_;rintro e w4⟨rfl,hw4⟩;obtain rfl:=hw4.symm;go_wp2;refine hK.out _ _ (λ_=>⟨kx.drew.alloc _,ky.drew.alloc _,trivial⟩) ?_;clear hK K
 (repeat (refine za (v:=?_) rfl rfl (λw' h=>?_) (λK k=>?_);rotate_left;obtain⟨f1,f2,_⟩:=h;have e1:=f1.cell;have e2:=f2.cell;go_simp;(try with_reducible rfl);go_simp;refine k _ ?_;clear k K))
 refine ze ?_;go_wp2;go_ret
 refine⟨rfl,1,#[.cells #[.int .i64 xi,.int .u32 xc,.string (bs xd)] 294,.cells #[.int .i64 yi,.int .u32 yc,.string (bs yd)] 294,.cells #[.int .i64 r1,.int .i64 r2] 3],?_⟩;rw [hW1.out,alloc_eq_grow,alloc_eq_grow,alloc_eq_grow,grow_grow,grow_grow];rfl
theorem zj8(blk off size:Nat)(w:World):CmpLays Tryz.prog 297 #[] zh 3 zjB blk off size w:=
 λ_ _ _ _ x y=>zcW x y _
end Go.Proofs.YtofppfoioodblaaGreatDoor
