/- PARTS OF THE PROOF. -/
import Derived.Shelf.SlSortCmp.WholeK
import Derived.Ground.SlsfProg
import Derived.Maps.RangeRun
import Derived.Test.YtofppfoioodblaaGreatDoorTC13
set_option maxRecDepth 8000
set_option maxHeartbeats 4000000
namespace Go.Proofs.YtofppfoioodblaaGreatDoor
open Go Go.RowKit Go.Shelf Go.Extern.Stop Go.Stop Go.Extern
attribute [local go_sem] Oper.semAt_some zB zp
theorem zgl(v:Value)(hv:∃a n c,v=.slice a n c)(w:World):Calls Tryz.prog 259 #[v] w λe w'=>
 e=.returned (.func (.func 306) #[] #[.pointer (some ⟨w.heap.size,0,none⟩)])/\w'=w.alloc (.cells #[v] 107):=by
 obtain⟨a,n,c,rfl⟩:=hv
 go_enter Tryz.func259,Tryz.ntmps259
 go_wp2;go_ret
 exact⟨rfl,rfl⟩
theorem zdZ(cb:Nat)(a:Option Addr)(c:Nat):
 Qr Fence.wide 2 Tryz.prog 306 #[.pointer (some ⟨cb,0,none⟩)] (λx:List UInt8=> #[.string (bs x)])
  (λ(_:Unit) _=>False) (λk _=>k) (λ_=>True) (λ_ W=>Blk W cb #[.slice a 0 c] 107) ():=by
 intro lp J Jx W hJ hJx hRd hY h0;have e0:=(hRd _ _ _ h0).cell;have hF:Fence.wide.fn 306:=trivial;have aa:Fence.wide.round=none:=rfl;refine callsIn_of_wp Tryz.func306 rfl hF ?_ aa;simp only [Tryz.ntmps306,R8,Nat.reduceAdd,Nat.reduceSub]
 gi_wp2
 gi_loopw [7] (λp wr=>p=.int .i64 0/\∃X,J () X wr) (λ_ _=>0)
 case atStart=>exact⟨rfl,_,h0⟩
 case round=>
  obtain⟨rfl,X,ac⟩:=hrel
  gi_wp2
  go_end0
  exact⟨⟨_,rfl⟩,.inl ⟨(),X,trivial,ac⟩⟩
def zkg(w:World)(e:Ending)(w':World):Prop:=
 ∃cb a c,e=.returned (.func (.func 306) #[] #[.pointer (some ⟨cb,0,none⟩)])/\Below w.heap.size w w'/\Blk w' cb #[.slice a 0 c] 107/\w.heap.size<=cb
theorem zd0(w:World):Calls Tryz.prog 210 #[.string ⟨#[]⟩] w (zkg w):=by
 have hr:=λW=>Q9 [] (by simp) W
 replace hr:=hid hr
 go_enter Tryz.func210,Tryz.ntmps210
 go_wp2_with fail
 refine(hr.out _).mono ?_;rintro e w1⟨v,rfl,aa,hs, -⟩
 obtain⟨va,vc,rfl⟩:∃a c,v=.slice a 0 c:=by
  rcases hs.2 with⟨rfl, -⟩|⟨b,off,cap,rfl, -⟩
  ·exact⟨_,_,rfl⟩
  exact⟨_,_,rfl⟩
 clear hs;go_wp2_with fail
 refine(zgl _ ⟨_,_,_,rfl⟩ _).mono ?_;rintro e w2⟨rfl,rfl⟩;go_wp2;go_ret
 exact⟨w1.heap.size,va,vc,rfl,zi aa _,Blk.new rfl,aa.size⟩
theorem Vz(B:Nat)(lv:Value)(s:yl)(w:World)(hB:Blk w B (xS lv s) 155):
 Calls Tryz.prog 158 #[.pointer (some ⟨B,0,none⟩)] w λe w'=>e=.returned (.string ⟨#[]⟩)/\Below w.heap.size w w':=by
 unfold xS at hB;have e0:=hB.cell;have l0:=hB.lt;refine zm Tryz.func158 rfl ?_;simp only [Tryz.ntmps158,R8,Nat.reduceAdd,Nat.reduceSub];go_wp2;go_step3;go_wp2;go_step3;go_wp2_with fail
 refine(zd0 _).mono ?_;rintro e W0⟨cb,va,vc,rfl,ae,ai,ah⟩;have k0:Blk W0 w.heap.size #[.string ⟨#[]⟩] 9:=Blk.call (bkx) ae;have aj:Below w.heap.size w W0:=pbx;have hz:=k0.lt;simp at ah
 clear e0;go_wp2_with fail
 refine vg (gf:=306) (lb:=#[.pointer (some ⟨cb,0,none⟩)]) rfl (enters_of Tryz.func306 (by kernel_rfl) rfl)
  (zdZ cb va vc) (λ_=>rfl)
  (λ_ X W=>Fr (λ_=>False) W0 X W) (λ_ _ _=>False)
  (λ_ X X' W W' h hm hx=>h.step hm hx) (λ_ _ X X' W W' h hm hx=>h) (λ_ X W h=>ai.mod h.2 (λh=>h)) (Fr.refl _ _)
  (λx=>[(4,.string (bs x))]) ?assign ?body ?done ?stop
 case assign=>
  intro l' x W K hK;rw [zW] at hK⊢
  gi_wp2
  exact hK
 case body=>rintro l' k x X W _ h;exact h.elim
 case done=>
  rintro D k X W hD ag af ac aa;have ad:Below w.heap.size w W:=aj.trans (ac.below (by omega) (λk hk=>hk.elim));have kW:=k0.mod ac.2 (λh=>h);have eW:=kW.cell;go_wp2;rw [Exit.noGoto_ret];exact jb (D:=D) (v:=.string ⟨#[]⟩) aa (by simp [results,Tryz.results158,go_sem]) ⟨rfl,zM ad (by omega) _⟩
 case stop=>rintro D c X W hD ag h;exact h.elim
theorem Src.mod {X:Nat->Prop}{w w':World}{v:Value}{size n:Nat}{xs:List Value}(h:Src w v size n xs)(hm:Mod X w w')(hx:∀a l c,v=.slice (some a) l c->¬X a.block):Src w' v size n xs:=by
 refine⟨h.1,?_⟩
 rcases h.2 with h0|⟨b,off,cap,rfl,hc,hr⟩
 ·exact .inl h0
 exact .inr ⟨b,off,cap,rfl,hc,λj u hu=>(hm.cell (p:=⟨b,off+j,none⟩) (jO (hr j u hu)) (show¬X b from hx ⟨b,off,none⟩ _ _ rfl)).trans (hr j u hu)⟩
theorem zkh(s:List UInt8):(vX s).2<=s.length:=by
 have key:∀(n:Nat)(s:List UInt8),(xN n s).2<=s.length:=by
  intro n
  induction n with
  |zero=>intro s;simp [xN]
  |succ n ih=>
   intro s;unfold xN
   by_cases h:(jy s).2=0
   ·rw [if_pos h];simp
   rw [if_neg h]
   have h1:=xw s;have h2:=ih (s.drop (jy s).2);rw [U3] at h2;simp only;omega
 exact key _ s
def JP(B:Nat)(R:yl×List (List UInt8))(t:List Nat)(ow:Own)(w:World)(e:Ending)(w':World):Prop:=
 ∃v ow',e=.returned (.tuple #[.string ⟨#[]⟩,v,.int .i64 0])/\zt t ow w ow' w'/\jx B R.1 t ow' w'/\Src w' v 1 R.2.length (yR R.2)/\∀a l c,v=.slice (some a) l c->w.heap.size<=a.block/\ow' a.block=[]
theorem zaV(B:Nat)(s:yl)(t:List Nat)(ow:Own)(w:World)(h:jx B s t ow w)(hl:s.log.length<=1073741824):
 Calls Tryz.prog 107 #[.pointer (some ⟨B,0,none⟩)] w (JP B (zZ s) t ow w):=by
 obtain⟨lv,hB,hR,o1,o2⟩:=h;have aw:=hB.lt;have ak:=zkh s.log;have am:=QP hR.src;have ad:=λW=>Q9 s.log hl W
 have ap:zZ s=({s with log:=s.log.take (vX s.log).2,isCut:=false,keep:=0,crashed:=false},(vX s.log).1):=rfl
 have ac:∀v lv2 W',Mod (λk=>k=B) w W'->Blk W' B (xS lv2 (zZ s).1) 155->XD W' 5 lv2 (s.log.take (vX s.log).2).length (u8s (s.log.take (vX s.log).2))->(lv2.ownBlock=none∨lv2.ownBlock=lv.ownBlock)->
  Src W' v 1 (vX s.log).1.length (yR (vX s.log).1)->(∀a l c,v=.slice (some a) l c->w.heap.size<=a.block)->JP B (zZ s) t ow w (.returned (.tuple #[.string ⟨#[]⟩,v,.int .i64 0])) W':=by
  intro v lv2 W' hM hB2 hR2 hO hS hF;refine⟨v,ow.cut w,rfl,⟨hM.mono (λk _ e=>by subst e;rw [o1];exact Sub.rfl' t),λk hk=>Own.cut_old hk⟩,⟨lv2,hB2,hR2,by rw [Own.cut_old aw,o1],λg hg=>?_⟩,hS,λa l c h=>⟨hF a l c h,Own.cut_new (hF a l c h)⟩⟩
  rcases hO with h|h
  ·rw [h] at hg;cases hg
  rw [h] at hg;rw [Own.cut_old (hR.lt hg),o2 g hg]
 rw [ap] at ac⊢;obtain⟨log,cap,a1,keep,cr⟩:=s;simp only at*;obtain⟨⟨rs,good⟩,ao⟩:∃x,vX log=x:=⟨_,rfl⟩;unfold zaU at ad;rw [ao] at ac ak ad⊢;simp only at ac ak ad⊢;unfold xS at hB ac;simp only at hB ac;have e0:=hB.cell;replace ap:=hid ap;replace ao:=hid ao;replace ad:=hid ad;have aa:=ac;clear ac;replace o2:=hid o2;obtain⟨a,c,rfl⟩:=hR.shape
 cases a with
 |none=>
  obtain⟨rfl,rfl⟩:log=[] /\c=0:=by
   rcases hR.2 with⟨h0,h1⟩|⟨g,cap,cur,h0, -⟩
   ·simpa using h0
   cases h0
  obtain rfl:good=0:=by simpa using ak
  rw [List.length_nil] at am hR hB e0;replace aa:=hid aa;replace hR:=hid hR;replace hB:=hid hB
  go_enter Tryz.func107,Tryz.ntmps107
  go_wp2_with fail
  refine(ad.out _).mono ?_;rintro e w1⟨v,rfl,ai,ag,af⟩;have k1:=hB.out.call ai;have c1:=k1.cell;have f1:=k1.frozen;have l1:=k1.lt
  obtain⟨va,vn,vc,ar⟩:∃a n c,v=.slice a n c:=by
   rcases ag.2 with⟨rfl, -⟩|⟨b,off,cap,rfl, -⟩
   ·exact⟨_,_,_,rfl⟩
   exact⟨_,_,_,rfl⟩
  subst ar;replace ag:=hid ag;replace af:=hid af;clear e0 am;go_wp2_with fail
  refine(Vz B _ ⟨[],cap,false,0,false⟩ _ ((((k1.set (o:=0) (.slice none 0 0)).set (o:=3) (.bool false)).set (o:=4) (.int .i64 0)).set (o:=5) (.bool false))).mono ?_;rintro e w2⟨rfl,ah⟩
  have aq:Mod (λk=>k=B) w1 w2:=
   (((((Mod.refl (λk=>k=B) w1).thenSet (p:=⟨B,0,none⟩) rfl (.slice none 0 0)).thenSet (p:=⟨B,3,none⟩) rfl (.bool false)).thenSet (p:=⟨B,4,none⟩) rfl (.int .i64 0)).thenSet (p:=⟨B,5,none⟩) rfl (.bool false)).thenCall ah
  have al:Mod (λk=>k=B) w ((((w1.setCell ⟨B,0,none⟩ (.slice none 0 0)).setCell ⟨B,3,none⟩ (.bool false)).setCell ⟨B,4,none⟩ (.int .i64 0)).setCell ⟨B,5,none⟩ (.bool false)):=
   ((((Mod.of_below (λk=>k=B) ai).thenSet (p:=⟨B,0,none⟩) rfl _).thenSet (p:=⟨B,3,none⟩) rfl _).thenSet (p:=⟨B,4,none⟩) rfl _).thenSet (p:=⟨B,5,none⟩) rfl _
  have k5:=((((k1.set (o:=0) (.slice none 0 0)).set (o:=3) (.bool false)).set (o:=4) (.int .i64 0)).set (o:=5) (.bool false)).call ah;go_wp2;go_ret3
  refine aa.out _ _ _ (al.thenCall ah) k5 ?_ ?_ ?_ ?_
  ·exact zff _ _
  ·exact .inl rfl
  ·exact ag.out.mod aq (λa l c h e=>by have:=af.out a l c h;omega)
  exact af.out
 |some a=>
  obtain⟨g,az,a0,ay⟩:∃g,a=⟨g,0,none⟩/\log.length<=c/\c<=maxLen:=by
   rcases hR.2 with⟨h0,h1⟩|⟨g,cap,cur,h0, -,h1,h2, -⟩
   ·cases h0
   cases h0;exact⟨g,rfl,h1,h2⟩
  subst az;unfold maxLen at ay;have ae:=hR.clip good ak (by simp);have aj:g≠B:=hR.ne_blk hB (by decide) rfl;have ax:g<w.heap.size:=hR.lt rfl;have y0:(good:Int)<=(c:Int):=by omega
  have y1:(c:Int)<=9223372036854775807:=by omega
  have an:(log.take good).length=good:=by rw [N7];omega
  have au:u8s (log.take good)=(u8s log).take good:=by simp [u8s,List.map_take]
  rw [an,au] at aa;replace an:=hid an;replace au:=hid au;replace ae:=hid ae;replace aa:=hid aa;replace hR:=hid hR;replace hB:=hid hB
  go_enter Tryz.func107,Tryz.ntmps107
  go_wp2_with fail
  refine(ad.out _).mono ?_;rintro e w1⟨v,rfl,ai,ag,af⟩;have k1:=hB.out.call ai;have c1:=k1.cell;have f1:=k1.frozen;have l1:=k1.lt
  obtain⟨va,vn,vc,ar⟩:∃a n c,v=.slice a n c:=by
   rcases ag.2 with⟨rfl, -⟩|⟨b,off,cap,rfl, -⟩
   ·exact⟨_,_,_,rfl⟩
   exact⟨_,_,_,rfl⟩
  subst ar;replace ag:=hid ag;replace af:=hid af;clear e0 am;go_wp2_with fail
  refine(Vz B _ ⟨log,cap,false,0,false⟩ _ ((((k1.set (o:=0) (.slice (some<|⟨g,0,none⟩) good good)).set (o:=3) (.bool false)).set (o:=4) (.int .i64 0)).set (o:=5) (.bool false))).mono ?_;rintro e w2⟨rfl,ah⟩
  have aq:Mod (λk=>k=B) w1 w2:=
   (((((Mod.refl (λk=>k=B) w1).thenSet (p:=⟨B,0,none⟩) rfl (.slice (some<|⟨g,0,none⟩) good good)).thenSet (p:=⟨B,3,none⟩) rfl (.bool false)).thenSet (p:=⟨B,4,none⟩) rfl (.int .i64 0)).thenSet (p:=⟨B,5,none⟩) rfl (.bool false)).thenCall ah
  have al:Mod (λk=>k=B) w ((((w1.setCell ⟨B,0,none⟩ (.slice (some<|⟨g,0,none⟩) good good)).setCell ⟨B,3,none⟩ (.bool false)).setCell ⟨B,4,none⟩ (.int .i64 0)).setCell ⟨B,5,none⟩ (.bool false)):=
   ((((Mod.of_below (λk=>k=B) ai).thenSet (p:=⟨B,0,none⟩) rfl _).thenSet (p:=⟨B,3,none⟩) rfl _).thenSet (p:=⟨B,4,none⟩) rfl _).thenSet (p:=⟨B,5,none⟩) rfl _
  have k5:=((((k1.set (o:=0) (.slice (some<|⟨g,0,none⟩) good good)).set (o:=3) (.bool false)).set (o:=4) (.int .i64 0)).set (o:=5) (.bool false)).call ah;go_wp2;go_ret3
  refine aa.out _ _ _ (al.thenCall ah) k5 ?_ ?_ ?_ ?_
  ·refine ae.out.kept (λg' hg'=>?_)
   cases hg'
   exact(ah.block g (by simp;have:=ai.size;omega)).trans ((N4 _ _ _ _ aj).trans ((N4 _ _ _ _ aj).trans ((N4 _ _ _ _ aj).trans ((N4 _ _ _ _ aj).trans (ai.block g ax)))))
  ·exact .inr rfl
  ·exact ag.out.mod aq (λa l c h e=>by have:=af.out a l c h;omega)
  exact af.out
theorem Zk {W:World}{l:List zA}{b off cap:Nat}(h:Src W (.slice (some ⟨b,off,none⟩) l.length cap) 3 l.length (l.flatMap zg)){k:Nat}{x:zA}(hx:l[k]?=some x):
 W.cell? ⟨b,off+k*3,none⟩=some (.int .i64 x.1.1)/\W.cell? ⟨b,off+k*3+1,none⟩=some (.int .u32 x.1.2)/\W.cell? ⟨b,off+k*3+2,none⟩=some (.string (bs x.2)):=by
 rcases h.2 with⟨h, -⟩|⟨b',off',cap',h, -,hr⟩
 ·cases h
 cases h
 have aa:∀j u,(zg x)[j]?=some u->j<3->W.cell? ⟨b,off+(k*3+j),none⟩=some u:=λj u hu hj=>hr _ u ((x7 l k x hx j hj).trans hu)
 exact⟨aa 0 _ rfl (by omega),aa 1 _ rfl (by omega),aa 2 _ rfl (by omega)⟩
theorem zd1(v:Value)(l:List zA)(w:World)(hv:Src w v 3 l.length (l.flatMap zg))(hl:l.length<=1073741824):
 Calls Tryz.prog 266 #[v] w λe w'=>e=.returned (.bool (l.all zx))/\Below w.heap.size w w':=by
 rcases hv.2 with⟨rfl,hn⟩|⟨b,off,cap,rfl,hc, -⟩
 ·obtain rfl:l=[]:=N9 hn
  clear hv
  go_enter Tryz.func266,Tryz.ntmps266
  go_wp2
  go_loop [7] (λp7=>p7=.int .i64 0) (λ_=>0)
  case atStart=>rfl
  case round=>
   subst hrel;go_wp2;go_ret
   exact⟨rfl,N2 _ _⟩
 go_enter Tryz.func266,Tryz.ntmps266
 go_wp2
 go_loopw [7] (λp7 wr=>∃k:Nat,k<=l.length/\p7=.int .i64 k/\(l.take k).all zx=true/\Below w.heap.size w wr) (λp7 _=>l.length - (intOf p7).toNat)
 case atStart=>exact⟨0,Nat.zero_le _,rfl,rfl,N2 _ _⟩
 case round=>
  obtain⟨k,hk,rfl,aa,ae⟩:=hrel
  by_cases hlt:k<l.length
  ·obtain⟨x,hx⟩:∃x,l[k]?=some x:=⟨_,N3 hlt⟩
   obtain⟨c0,c1,c2⟩:=Zk (hv.below ae) hx;have ac:(l.take (k+1)).all zx=((l.take k).all zx && zx x):=by rw [List.take_add_one,hx];simp [List.all_append]
   have ag:=jO c0;obtain⟨⟨xi,xc⟩,xd⟩:=x;simp only at c0 c1 c2 ag;have hr:=λW=>vG xi xc xd W
   cases hrx:zx ((xi,xc),xd)
   ·rw [hrx] at hr
    have ad:l.all zx=false:=by
     rw [Bool.eq_false_iff];intro h;rw [List.all_eq_true] at h;have:=h _ (List.mem_of_getElem? hx);rw [hrx] at this;cases this
    replace hr:=hid hr;replace hx:=hid hx;replace ac:=hid ac;replace aa:=hid aa;replace ad:=hid ad;go_wp2_with fail
    refine(hr.out _).mono ?_;rintro e w1⟨rfl,ah⟩;go_wp2;go_ret
    exact⟨by rw [ad.out];rfl,pbx⟩
   rw [hrx] at hr ac
   rw [aa] at ac;replace hr:=hid hr;replace hx:=hid hx;replace ac:=hid ac;replace aa:=hid aa;go_wp2_with fail
   refine(hr.out _).mono ?_;rintro e w1⟨rfl,ah⟩;have af:Below w.heap.size w w1:=pbx;go_wp2
   go_roundw
   case rel=>exact⟨k+1,by omega,by go_num,ac.out,af⟩
   case measure=>simp [intOf];omega
  obtain rfl:k=l.length:=by omega
  rw [List.take_length] at aa;replace aa:=hid aa;go_wp2;go_ret
  exact⟨by rw [aa.out];rfl,ae⟩
theorem zck {p:xr}{l:List zA}{k:Nat}{x:zA}(hx:l[k]?=some x):(l.take (k+1)).foldl yY p=yY ((l.take k).foldl yY p) x:=by
 rw [List.take_add_one,hx];simp [List.foldl_append]
def zki(B:Nat)(p:xr)(t:List Nat)(ow:Own)(w:World)(e:Ending)(w':World):Prop:=
 ∃v,e=.returned v/\zt t ow w ow w'/\j5 B p t ow w'
theorem zaa(B:Nat)(p:xr)(t:List Nat)(ow:Own)(v:Value)(l:List zA)(w:World)(h:j5 B p t ow w)(hv:Src w v 3 l.length (l.flatMap zg))(hl:l.length<=1073741824)(hvn:∀a n c,v=.slice (some a) n c->¬Sub t (ow a.block)):
 Calls Tryz.prog 217 #[.pointer (some ⟨B,0,none⟩),v] w (zki B (JH p l) t ow w):=by
 have h0:=h;obtain⟨b4,wb,db,hB,aw,ar,a3,o1,o2,o3⟩:=h;have ah:=λW hW=>Yu B wb db W hW
 have aa:=λW hW=>zd1 v l W hW hl
 unfold xJ at hB ah;have ap:JH p l=if l.all zx then l.foldl yY p else p:=rfl
 obtain⟨va,vc,rfl⟩:=hv.shape
 cases hall:l.all zx
 ·rw [hall] at aa
  rw [if_neg (by simp [hall])] at ap;rw [ap];replace ap:=hid ap;replace hall:=hid hall;replace ah:=hid ah;replace aa:=hid aa;replace h0:=hid h0;replace hvn:=hid hvn;clear aw ar
  go_enter Tryz.func217,Tryz.ntmps217
  go_wp2_with fail
  refine(ah.out _ hB).mono ?_;rintro e w1⟨rfl,bc⟩;obtain rfl:=bc.symm;go_wp2_with fail
  refine(aa.out _ hv).mono ?_;rintro e w2⟨rfl,ax⟩;go_wp2;go_ret2
  exact⟨_,rfl,zt.of_below t ow ax,(j5.loc B p t).below h0.out ax⟩
 rw [hall] at aa
 rw [if_pos hall] at ap;rw [ap];replace ap:=hid ap;replace hall:=hid hall;replace ah:=hid ah;replace aa:=hid aa;replace h0:=hid h0;replace hvn:=hid hvn
 go_enter Tryz.func217,Tryz.ntmps217
 go_wp2_with fail
 refine(ah.out _ hB).mono ?_;rintro e w1⟨rfl,bc⟩;obtain rfl:=bc.symm;go_wp2_with fail
 refine(aa.out _ hv).mono ?_;rintro e W0⟨rfl,ax⟩;go_wp2
 go_loopw [6,16] (λp6 p16 wr=>∃(k:Nat)(acc:List zA),k<=l.length/\p16=.int .i64 k/\acc.length<=k/\Row wr 78 3 p6 acc.length (acc.flatMap zg)/\(∀g,p6.ownBlock=some g->w.heap.size<=g)/\Mod (λj=>j=wb∨j=db) w wr/\Vw ((l.take k).foldl yY p)/\z6 wr wb idV (((l.take k).foldl yY p).waits.map λq=>(q.1,y7 q.2))/\z6 wr db idV (((l.take k).foldl yY p).done.map λq=>(q.1,Jn))) (λ_ p16 _=>l.length - (intOf p16).toNat)
 case atStart=>exact⟨0,[],Nat.zero_le _,rfl,N0 _,z7 _ _ _,by simp [Value.ownBlock],Mod.of_below _ ax,b4,aw.kept (ax.block _ aw.lt),ar.kept (ax.block _ ar.lt)⟩
 case round=>
  obtain⟨k,acc,hk,rfl,bu,ad,ag,af,an,ak,ai⟩:=hrel;have bb:=hB.mod af (λe=>by rcases e with e|e;exact hB.ne_map aw e;exact hB.ne_map ar e)
  by_cases hlt:k<l.length
  ·obtain⟨x,hx⟩:∃x,l[k]?=some x:=⟨_,N3 hlt⟩
   have a5:Src wr (.slice va l.length vc) 3 l.length (l.flatMap zg):=hv.mod af (λa n c h e=>by rcases e with e|e;exact hvn.out a n c h (by rw [e,o2];exact Sub.rfl' t);exact hvn.out a n c h (by rw [e,o3];exact Sub.rfl' t))
   obtain⟨b,bn,b2⟩:∃b bn,va=some ⟨b,bn,none⟩:=by
    rcases a5.2 with⟨h,hn⟩|⟨b',off',cap',h, -, -⟩
    ·omega
    cases h;exact⟨_,_,rfl⟩
   subst b2;obtain⟨c0,c1,c2⟩:=Zk a5 hx;have aj:=zck (p:=p) hx;have bq:=jO c0
   generalize(l.take k).foldl yY p=q at*
   obtain⟨⟨xi,xc⟩,xd⟩:=x;simp only at c0 c1 c2 bq;have ae:=λW hW=>ze4 B q t ow xi xc W hW
   have b1:yY q ((xi,xc),xd)=if(zE (xi,xc) q.done).isSome then q else {waits:=del (xi,xc) q.waits,done:=put (xi,xc) () q.done} :=rfl
   rw [b1] at aj;have a9:j5 B q t ow (wr.alloc (.cells #[.int .i64 xi,.int .u32 xc,.string (bs xd)] 78)):=⟨an,wb,db,bb.alloc _,ak.kept (U4 _ _ _ ak.lt),ai.kept (U4 _ _ _ ai.lt),a3,o1,o2,o3⟩;obtain⟨ra,rn,rc,rfl⟩:=ad.shape;replace hx:=hid hx;replace hv:=hid hv;replace a5:=hid a5;replace a9:=hid a9;replace ag:=hid ag
   cases hd:(zE (xi,xc) q.done).isSome
   ·rw [hd] at ae aj
    rw [if_neg (by simp)] at aj;replace ae:=hid ae;replace aj:=hid aj;replace hd:=hid hd;go_wp2_with fail
    refine(ae.out _ a9.out).mono ?_;rintro e w1⟨rfl,a6⟩;clear c0 c1 c2;have ac:Below wr.heap.size wr w1:=zh (zi (N2 _ _) _) a6;have a0:=bb.call ac;have a2:Blk w1 wr.heap.size #[.int .i64 xi,.int .u32 xc,.string (bs xd)] 78:=Blk.call (Blk.new rfl) a6;have bj:=ak.kept (ac.block _ ak.lt);have bl:=ai.kept (ac.block _ ai.lt);have bz:B≠wb:=hB.ne_map aw;have bk:B≠db:=hB.ne_map ar;have bo:wr.heap.size≠wb:=by have:=ak.lt;omega
    have bh:wr.heap.size≠db:=by have:=ai.lt;omega
    obtain⟨od,bg,a7⟩:=(bl.kept (w':=w1.drew) rfl).update VK Tryz.underlying229 ((xi,xc):MId) Jn;have bw:=JD (λ_:Unit=>Jn) ((xi,xc):MId) () q.done;rw [bw] at a7;unfold Jn idV at bg;go_wp2_with fail
    refine zd [O 0,O 1,O 2,O 3,O 4,O 5,E 6,E 7] none (λw'=>Blk w' B #[.map (some wb),.map (some db)] 231/\Blk w' wr.heap.size #[.int .i64 xi,.int .u32 xc,.string (bs xd)] 78/\True) ⟨a0.drew,a2.drew,trivial⟩ ?_
    refine Wd ?_
    refine zc rfl (λK hK=>?_);go_wp2;refine hK.out _ _ (λ_=>⟨a0.drew,a2.drew,trivial⟩) ?_;clear hK K;refine zc rfl (λK hK=>?_);go_wp2;refine hK.out _ _ (λ_=>⟨a0.drew.putObj bk od,a2.drew.putObj bh od,trivial⟩) ?_;clear hK K;refine ze ?_;obtain⟨W2,aq⟩:∃W2,W2=w1.drew.putObj db od:=⟨_,rfl⟩;have bd:Blk W2 B #[.map (some wb),.map (some db)] 231:=by rw [aq];exact a0.drew.putObj bk od
    have a4:Blk W2 wr.heap.size #[.int .i64 xi,.int .u32 xc,.string (bs xd)] 78:=by rw [aq];exact a2.drew.putObj bh od
    have bm:z6 W2 wb idV (q.waits.map λq=>(q.1,y7 q.2)):=by rw [aq];exact bj.kept (w:=w1) (U1 a3)
    rw [← aq] at a7;have b0:Mod (λj=>j=wb∨j=db) wr W2:=by rw [aq];exact((Mod.of_below (λj=>j=wb∨j=db) ac).thenDrew).thenPut (.inr rfl) od
    rw [← aq];clear aq bg a0 a2 bj bl;go_wp2_with fail
    obtain⟨az,au,a1⟩:=(bm.kept (w':=W2.drew) rfl).delete VK Tryz.underlying228 #[228,76] 0 rfl ((xi,xc):MId);have b5:=V5 y7 ((xi,xc):MId) q.waits;rw [b5] at a1;unfold idV at au;refine zd [O 0,O 1,O 2,O 3,O 4,O 5,E 6] none (λw'=>Blk w' B #[.map (some wb),.map (some db)] 231/\Blk w' wr.heap.size #[.int .i64 xi,.int .u32 xc,.string (bs xd)] 78/\True) ⟨bd.drew,a4.drew,trivial⟩ ?_
    refine Wd ?_
    refine zc rfl (λK hK=>?_);refine yt rfl _ _ _ _ rfl rfl rfl au ?_;unfold wpList;refine hK.out _ _ (λ_=>⟨bd.drew.putObj bz az,a4.drew.putObj bo az,trivial⟩) ?_;clear hK K;refine ze ?_;obtain⟨W3,ay⟩:∃W3,W3=W2.drew.putObj wb az:=⟨_,rfl⟩;have bv:Blk W3 wr.heap.size #[.int .i64 xi,.int .u32 xc,.string (bs xd)] 78:=by rw [ay];exact a4.drew.putObj bo az
    have ba:z6 W3 db idV ((put (xi,xc) () q.done).map λq=>(q.1,Jn)):=by rw [ay];exact a7.kept (w:=W2) (U1 (Ne.symm a3))
    rw [← ay] at a1;have a8:Mod (λj=>j=wb∨j=db) wr W3:=by rw [ay];exact(b0.thenDrew).thenPut (.inl rfl) az
    rw [← ay];clear ay au bd a4 bm a7;have b6:=bv.cell;have ao:=ad.mod a8 (λg hg e=>by have:=ag.out g hg;have h1:=aw.lt;have h2:=ar.lt;rcases e with e|e<;>omega);obtain⟨v',W4,be,al,bi,am⟩:=zQ zbD (ao.below ((N2 _ _).alloc (N0 _) (.cells #[.int .i64 xi,.int .u32 xc,.string (bs xd)] 78))) (jP (n:=1) (size:=3) (cap:=1) (Blk.new (w:=W3) (cs:=#[.int .i64 xi,.int .u32 xc,.string (bs xd)]) (t:=78) rfl) rfl (N0 1)) (jv [((xi,xc),xd)]) (by omega) 42;obtain⟨sa,sm,sc,rfl⟩:=al.shape;replace al:=hid al;replace am:=hid am;replace ao:=hid ao;replace ad:=hid ad;replace a1:=hid a1;replace ba:=hid ba;replace ak:=hid ak;replace ai:=hid ai
    go_wp2_with (at_builtin
                 refine zw rfl _ _ _ rfl rfl rfl be ?_)
    go_roundw
    case rel=>
     have bt:Mod (λj=>j=wb∨j=db) w W4:=by
      have b3:=af.trans a8 (Z:=λj=>j=wb∨j=db) (λ_ _ e=>e) (λ_ _ e=>e);have h5:=(b3.thenAlloc (.cells #[.int .i64 xi,.int .u32 xc,.string (bs xd)] 78)).trans (Mod.grown (X:=λk=>(Value.slice ra rn rc).ownBlock=some k) bi (λk h=>h)) (Z:=λj=>(j=wb∨j=db)∨(Value.slice ra rn rc).ownBlock=some j) (λ_ _ e=>.inl e) (λ_ _ e=>.inr e);exact h5.mono (λj hj e=>by rcases e with e|e;exact e;have:=ag.out j e;omega)
     have bf:∀j,(j=wb∨j=db)->W4.heap[j]?=W3.heap[j]?:=λj hj=>by
      have b7:j<w.heap.size:=by rcases hj with e|e;rw [e];exact aw.lt;rw [e];exact ar.lt
      have bp:=a8.size;have br:=af.size;exact(bi.block j (by simp;omega) (λe=>by have:=ag.out j e.symm;omega)).trans (U4 _ _ _ (by omega))
     refine⟨k+1,acc++ [((xi,xc),xd)],by omega,by go_num,by simp;omega,?_,λg hg=>?_,bt,?_,?_,?_⟩
     ·rw [N1,U2,U5];exact al.out
     ·have h5:=am.out
      rw [hg] at h5
      rcases h5 with h|h
      ·exact ag.out g h.symm
      have:=a8.size;have:=af.size;simp at h;omega
     ·rw [aj.out];exact an.less _ _
     ·rw [aj.out];exact a1.out.kept (bf wb (.inl rfl))
     rw [aj.out];exact ba.out.kept (bf db (.inr rfl))
    case measure=>simp [intOf];omega
   rw [hd] at ae aj
   rw [if_pos rfl] at aj;replace ae:=hid ae;replace aj:=hid aj;replace hd:=hid hd;replace ad:=hid ad;replace ak:=hid ak;replace ai:=hid ai;go_wp2_with fail
   refine(ae.out _ a9.out).mono ?_;rintro e w1⟨rfl,a6⟩;have ac:Below wr.heap.size wr w1:=zh (zi (N2 _ _) _) a6;go_wp2
   go_roundw
   case rel=>exact⟨k+1,acc,by omega,by go_num,by omega,ad.out.below ac,ag.out,af.thenCall ac,by rw [aj.out];exact an,by rw [aj.out];exact ak.out.kept (ac.block _ ak.out.lt),by rw [aj.out];exact ai.out.kept (ac.block _ ai.out.lt)⟩
   case measure=>simp [intOf];omega
  obtain rfl:k=l.length:=by omega
  rw [List.take_length] at an ak ai;replace ak:=hid ak;replace ai:=hid ai;obtain⟨ra,rn,rc,rfl⟩:=ad.shape;go_wp2;go_ret2
  exact⟨_,rfl,⟨af.mono (λk _ e=>by rcases e with e|e;subst e;rw [o2];exact Sub.rfl' t;subst e;rw [o3];exact Sub.rfl' t),λ_ _=>rfl⟩,an,wb,db,bb,ak.out,ai.out,a3,o1,o2,o3⟩
end Go.Proofs.YtofppfoioodblaaGreatDoor
namespace Go.Proofs
open Go.Shelf
def Tryz.sortPend_ren:Go.Shelf.Ren:=⟨λ|6=>296|15=>331|14=>330|28=>352|29=>324|20=>344|21=>345|22=>346|23=>347|24=>348|25=>349|26=>350|27=>351|46=>356|47=>357|48=>358|49=>359|50=>360|57=>364|n=>n,λ|22=>436|24=>294|25=>438|3=>3|39=>33|0=>0|53=>35|55=>52|4=>4|46=>489|45=>488|50=>380|5=>5|9=>9|66=>499|70=>503|76=>508|77=>509|n=>n,λ|n=>n⟩
theorem Tryz.sortPend:Go.Proofs.SlLaysF0.n6 Tryz.prog Tryz.sortPend_ren:={
 mixed:=by kernel_rfl
 f6:=⟨Tryz.f296.name,by decide,Tryz.func296.trans (congrArg some (by kernel_rfl))⟩
 f14:=⟨Tryz.f330.name,by decide,Tryz.func330.trans (congrArg some (by kernel_rfl))⟩
 f15:=Tryz.func331.trans (congrArg some (by kernel_rfl))
 f20:=⟨Tryz.f344.name,by decide,Tryz.func344.trans (congrArg some (by kernel_rfl))⟩
 f21:=⟨Tryz.f345.name,by decide,Tryz.func345.trans (congrArg some (by kernel_rfl))⟩
 f22:=⟨Tryz.f346.name,by decide,Tryz.func346.trans (congrArg some (by kernel_rfl))⟩
 f23:=⟨Tryz.f347.name,by decide,Tryz.func347.trans (congrArg some (by kernel_rfl))⟩
 f24:=⟨Tryz.f348.name,by decide,Tryz.func348.trans (congrArg some (by kernel_rfl))⟩
 f25:=⟨Tryz.f349.name,by decide,Tryz.func349.trans (congrArg some (by kernel_rfl))⟩
 f26:=⟨Tryz.f350.name,by decide,Tryz.func350.trans (congrArg some (by kernel_rfl))⟩
 f27:=⟨Tryz.f351.name,by decide,Tryz.func351.trans (congrArg some (by kernel_rfl))⟩
 f28:=Tryz.func352.trans (congrArg some (by kernel_rfl))
 f29:=Tryz.func324.trans (congrArg some (by kernel_rfl))
 f46:=⟨Tryz.f356.name,by decide,Tryz.func356.trans (congrArg some (by kernel_rfl))⟩
 f47:=Tryz.func357.trans (congrArg some (by kernel_rfl))
 f48:=Tryz.func358.trans (congrArg some (by kernel_rfl))
 f49:=⟨Tryz.f359.name,by decide,Tryz.func359.trans (congrArg some (by kernel_rfl))⟩
 f50:=⟨Tryz.f360.name,by decide,Tryz.func360.trans (congrArg some (by kernel_rfl))⟩
 f57:=⟨Tryz.f364.name,by decide,Tryz.func364.trans (congrArg some (by kernel_rfl))⟩
 t0:=Tryz.underlying0
 a0:=Tryz.isAgg0
 z0:=Tryz.sizeOf0
 v0:=Tryz.zeroValue0
 t3:=Tryz.underlying3
 a3:=Tryz.isAgg3
 z3:=Tryz.sizeOf3
 v3:=Tryz.zeroValue3
 t4:=Tryz.underlying4
 a4:=Tryz.isAgg4
 z4:=Tryz.sizeOf4
 v4:=Tryz.zeroValue4
 t5:=Tryz.underlying5
 a5:=Tryz.isAgg5
 z5:=Tryz.sizeOf5
 v5:=Tryz.zeroValue5
 t9:=Tryz.underlying9
 a9:=Tryz.isAgg9
 z9:=Tryz.sizeOf9
 v9:=Tryz.zeroValue9
 t22:=Tryz.underlying436
 a22:=Tryz.isAgg436
 z22:=Tryz.sizeOf436
 v22:=Tryz.zeroValue436
 t25:=Tryz.underlying438
 a25:=Tryz.isAgg438
 z25:=Tryz.sizeOf438
 v25:=Tryz.zeroValue438
 t39:=Tryz.underlying33
 a39:=Tryz.isAgg33
 z39:=Tryz.sizeOf33
 v39:=Tryz.zeroValue33
 t45:=Tryz.underlying488
 a45:=Tryz.isAgg488
 z45:=Tryz.sizeOf488
 v45:=Tryz.zeroValue488
 t46:=Tryz.underlying489
 a46:=Tryz.isAgg489
 z46:=Tryz.sizeOf489
 v46:=Tryz.zeroValue489
 t50:=Tryz.underlying380
 a50:=Tryz.isAgg380
 z50:=Tryz.sizeOf380
 v50:=Tryz.zeroValue380
 t53:=Tryz.underlying35
 a53:=Tryz.isAgg35
 z53:=Tryz.sizeOf35
 v53:=Tryz.zeroValue35
 t55:=Tryz.underlying52
 a55:=Tryz.isAgg52
 z55:=Tryz.sizeOf52
 v55:=Tryz.zeroValue52
 t66:=Tryz.underlying499
 a66:=Tryz.isAgg499
 z66:=Tryz.sizeOf499
 v66:=Tryz.zeroValue499
 t70:=Tryz.underlying503
 a70:=Tryz.isAgg503
 z70:=Tryz.sizeOf503
 v70:=Tryz.zeroValue503
 t76:=Tryz.underlying508
 a76:=Tryz.isAgg508
 z76:=Tryz.sizeOf508
 v76:=Tryz.zeroValue508
 t77:=Tryz.underlying509
 a77:=Tryz.isAgg509
 z77:=Tryz.sizeOf509
 v77:=Tryz.zeroValue509}
end Go.Proofs
namespace Go.Proofs.YtofppfoioodblaaGreatDoor
open Go Go.RowKit Go.Shelf Go.Extern.Stop Go.Stop Go.Extern Go.Lib Go.Sort
attribute [local go_sem] Oper.semAt_some zB zp
theorem zgm(x:Nat)(w:World):Calls Tryz.prog 354 #[.int .u32 x] w λe w'=>e=.returned (.bool false)/\w'=w:=by
 have t0:((x:Int) !=(x:Int))=false:=by simp
 go_enter Tryz.func354,Tryz.ntmps354
 go_wp2;go_ret
 exact⟨rfl,rfl⟩
theorem zkj(x y:Nat)(w:World):Calls Tryz.prog 334 #[.int .u32 x,.int .u32 y] w λe w'=>e=.returned (.int .i64 (Lib.compareInt x y))/\w'=w:=by
 unfold Lib.compareInt;have hn:=λz=>zgm z w
 replace hn:=hid hn
 by_cases h1:(x:Int)<y
 ·rw [if_pos h1]
  have t1:decide (x<y)=true:=by simpa using h1
  replace h1:=hid h1
  go_enter Tryz.func334,Tryz.ntmps334
  go_wp2_with (go_at_call 354;refine(hn.out _).mono ?_;rintro e w1 ⟨rfl,aa⟩;obtain rfl:=aa.symm)
  go_ret
  exact⟨rfl,rfl⟩
 rw [if_neg h1]
 have t1:decide (x<y)=false:=by simpa using h1
 replace h1:=hid h1
 by_cases h2:(y:Int)<x
 rw [if_pos h2];have t2:decide (y<x)=true:=by simpa using h2
 replace h2:=hid h2
 rotate_left
 rw [if_neg h2];have t2:decide (y<x)=false:=by simpa using h2
 replace h2:=hid h2
 all_goals
  go_enter Tryz.func334,Tryz.ntmps334
  go_wp2_with (go_at_call 354;refine(hn.out _).mono ?_;rintro e w1 ⟨rfl,aa⟩;obtain rfl:=aa.symm)
  go_ret
  exact⟨rfl,rfl⟩
theorem zlw(b:Nat)(x y:Int)(w:World)(h0:w.cell? ⟨b,0,none⟩=some (.int .i64 x))(h1:w.cell? ⟨b,1,none⟩=some (.int .i64 y)):
 Calls Tryz.prog 332 #[.slice (some ⟨b,0,none⟩) 2 2] w λe w'=>e=.returned (.int .i64 (if x≠0 then x else y))/\w'=w:=by
 go_enter Tryz.func332,Tryz.ntmps332
 go_wp2
 go_loop [8] (λp8=>∃k:Nat,k<=2/\p8=.int .i64 k/\(1<=k->x=0)/\(2<=k->y=0)) (λp8=>2 - (intOf p8).toNat)
 case atStart=>exact⟨0,by omega,rfl,by simp,by simp⟩
 case round=>
  obtain⟨k,hk,rfl,hx,hy⟩:=hrel
  rcases(by omega:k=0∨k=1∨k=2)with rfl|rfl|rfl
  ·by_cases aa:x=0
   ·have t0:(x !=0)=false:=by simp [aa]
    replace aa:=hid aa;go_wp2
    go_round
    case rel=>exact⟨1,by omega,by go_num,λ_=>aa.out,by omega⟩
    case measure=>simp [intOf]
   have t0:(x !=0)=true:=by simpa using aa
   have hv:(if x≠0 then x else y)=x:=if_pos aa;replace aa:=hid aa;replace hv:=hid hv;go_wp2;go_ret
   first|exact⟨rfl,rfl⟩|exact⟨by rw [hv.out],rfl⟩
  ·have aa:x=0:=hx (by omega)
   have hv:(if x≠0 then x else y)=y:=if_neg (by simp [aa]);replace aa:=hid aa
   by_cases ac:y=0
   ·have t0:(y !=0)=false:=by simp [ac]
    replace ac:=hid ac;replace hv:=hid hv;go_wp2
    go_round
    case rel=>exact⟨2,by omega,by go_num,λ_=>aa.out,λ_=>ac.out⟩
    case measure=>simp [intOf]
   have t0:(y !=0)=true:=by simpa using ac
   replace ac:=hid ac;replace hv:=hid hv;go_wp2;go_ret
   first|exact⟨rfl,rfl⟩|exact⟨by rw [hv.out],rfl⟩
  have aa:x=0:=hx (by omega)
  have ac:y=0:=hy (by omega);have hv:(if x≠0 then x else y)=0:=by rw [if_neg (by simp [aa]),ac]
  replace aa:=hid aa;replace ac:=hid ac;replace hv:=hid hv;go_wp2;go_ret
  first|exact⟨rfl,rfl⟩|exact⟨by rw [hv.out],rfl⟩
def zkY(a b:zA):Int:=if Lib.compareInt a.1.1 b.1.1≠0 then Lib.compareInt a.1.1 b.1.1 else Lib.compareInt (a.1.2:Nat) (b.1.2:Nat)
theorem zd2(x y:zA)(w:World):Calls Tryz.prog 297 #[.agg (zg x).toArray,.agg (zg y).toArray] w λe w'=>e=.returned (.int .i64 (zkY x y))/\∃q os',w'=grow (w.drewN q) os':=by
 obtain⟨⟨xi,xc⟩,xd⟩:=x;obtain⟨⟨yi,yc⟩,yd⟩:=y;unfold zg zkY;simp only;have ae:=λW=>Tryz.cmp_Compare_int xi yi W
 have ac:=λW=>zkj xc yc W
 generalize Lib.compareInt xi yi=r1 at*
 generalize Lib.compareInt (xc:Int) (yc:Int)=r2 at*
 have ad:=λb W h0 h1=>zlw b r1 r2 W h0 h1
 generalize(if r1≠0 then r1 else r2)=r at*
 replace ae:=hid ae;replace ac:=hid ac;replace ad:=hid ad;obtain⟨W1,aa⟩:∃W1,W1=(w.alloc (.cells #[.int .i64 xi,.int .u32 xc,.string (bs xd)] 294)).alloc (.cells #[.int .i64 yi,.int .u32 yc,.string (bs yd)] 294):=⟨_,rfl⟩;have kx:Blk W1 w.heap.size #[.int .i64 xi,.int .u32 xc,.string (bs xd)] 294:=by rw [aa];exact(Blk.new rfl).alloc _
 have ky:Blk W1 (w.heap.size+1) #[.int .i64 yi,.int .u32 yc,.string (bs yd)] 294:=by rw [aa];exact Blk.new (by simp)
 replace aa:=hid aa
 go_enter Tryz.func297,Tryz.ntmps297
 go_wp2_with fail
 rw [← aa.out];refine zd [O 0,O 1,O 2,O 3,O 4,O 5,O 6,O 7,O 9,O 10,O 11,O 12,O 13,O 14,O 15,O 16,E 8,E 17,E 18,E 19,O 20] none (λw'=>Blk w' w.heap.size #[.int .i64 xi,.int .u32 xc,.string (bs xd)] 294/\Blk w' (w.heap.size+1) #[.int .i64 yi,.int .u32 yc,.string (bs yd)] 294/\True) ⟨kx.drew,ky.drew,trivial⟩ ?_
 refine Wd ?_
 refine zc rfl (λK hK=>?_);go_wp2_with fail
 refine(ae.out _).mono ?_;rintro e w2⟨rfl,af⟩;obtain rfl:=af.symm;go_wp2;refine hK.out _ _ (λ_=>⟨kx.drew,ky.drew,trivial⟩) ?_;clear hK K;refine zc rfl (λK hK=>?_);go_wp2_with fail
 refine(ac.out _).mono ?_;rintro e w3⟨rfl,ah⟩;obtain rfl:=ah.symm;go_wp2;refine hK.out _ _ (λ_=>⟨kx.drew,ky.drew,trivial⟩) ?_;clear hK K;refine zc rfl (λK hK=>?_);go_wp2;refine hK.out _ _ (λ_=>⟨kx.drew.alloc _,ky.drew.alloc _,trivial⟩) ?_;clear hK K;refine zc rfl (λK hK=>?_);go_wp2_with fail
 refine(ad.out _ _ (by simp) (by simp)).mono ?_;rintro e w4⟨rfl,ag⟩;obtain rfl:=ag.symm;go_wp2;refine hK.out _ _ (λ_=>⟨kx.drew.alloc _,ky.drew.alloc _,trivial⟩) ?_;clear hK K
 refine Wd ?_
 refine ze ?_;go_wp2;go_ret
 refine⟨rfl,1,#[.cells #[.int .i64 xi,.int .u32 xc,.string (bs xd)] 294,.cells #[.int .i64 yi,.int .u32 yc,.string (bs yd)] 294,.cells #[.int .i64 r1,.int .i64 r2] 3],?_⟩;rw [aa.out,alloc_eq_grow,alloc_eq_grow,alloc_eq_grow,grow_grow,grow_grow];rfl
theorem zlx(blk off size:Nat)(w:World):CmpLays Tryz.prog 297 #[] zg 3 zkY blk off size w:=
 λ_ _ _ _ x y=>zd2 x y _
theorem zaW(x y:zA):ltOf zkY x y=(decide (x.1.1<y.1.1)||(decide (x.1.1=y.1.1)&& decide (x.1.2<y.1.2))):=by
 obtain⟨⟨xi,xc⟩,xd⟩:=x;obtain⟨⟨yi,yc⟩,yd⟩:=y;unfold ltOf zkY Lib.compareInt;simp only
 by_cases h1:xi<yi
 ·simp [h1]
 by_cases h2:yi<xi
 ·have:¬xi=yi:=by omega
  simp [h1,h2,this]
 have h3:xi=yi:=by omega
 subst h3
 by_cases h4:(xc:Int)<yc
 ·have:xc<yc:=by omega
  simp [h4,this]
 by_cases h5:(yc:Int)<xc
 ·have:¬xc<yc:=by omega
  simp [h4,h5,this]
 have:¬xc<yc:=by omega
 simp [h4,h5,this]
theorem zm0:SWO (ltOf zkY) where
 irrefl x:=by rw [zaW];simp
 trans x y z h1 h2:=by
  rw [zaW] at*;simp only [Bool.or_eq_true,Bool.and_eq_true,decide_eq_true_eq] at*;omega
 ntrans x y z h1 h2:=by
  rw [zaW] at*;simp only [Bool.or_eq_false_iff,Bool.and_eq_false_iff,decide_eq_false_iff_not] at*;omega
theorem zgn {a b:zA}(h:ltOf zkY b a=false):ltM a b=true:=by
 rw [zaW] at h;simp only [Bool.or_eq_false_iff,Bool.and_eq_false_iff,decide_eq_false_iff_not] at h;unfold ltM;simp only [Bool.or_eq_true,Bool.and_eq_true,decide_eq_true_eq];omega
theorem zcl {a b:zA}(h:ltM a b=true)(k:ltM b a=true):a.1=b.1:=by
 unfold ltM at h k;simp only [Bool.or_eq_true,Bool.and_eq_true,decide_eq_true_eq] at h k
 apply Prod.ext<;>omega
theorem ziw(a b:zA)(h:ltM a b=false):ltM b a=true:=by
 unfold ltM at*;simp only [Bool.or_eq_false_iff,Bool.and_eq_false_iff,decide_eq_false_iff_not,Bool.or_eq_true,Bool.and_eq_true,decide_eq_true_eq] at*;omega
theorem zix {a b c:zA}(h:ltM a b=true)(k:ltM b c=true):ltM a c=true:=by
 unfold ltM at*;simp only [Bool.or_eq_true,Bool.and_eq_true,decide_eq_true_eq] at*;omega
theorem XG(m:zA):∀l,(zj2 m l).Perm (m::l)
 | []=>List.Perm.refl _
 |x::l=>by
  unfold zj2
  split
  ·exact List.Perm.refl _
  exact((XG m l).cons x).trans (List.Perm.swap m x l)
theorem vV:∀l,(Zf l).Perm l
 | []=>List.Perm.refl _
 |x::l=>(XG x (Zf l)).trans ((vV l).cons x)
theorem XH(m:zA):∀l:List zA,l.Pairwise (λa b=>ltM a b=true)->(zj2 m l).Pairwise (λa b=>ltM a b=true)
 | [],_=>by simp [zj2]
 |x::l,h=>by
  unfold zj2
  split
  ·rename_i hx
   refine List.pairwise_cons.2 ⟨λy hy=>?_,h⟩
   rcases List.mem_cons.1 hy with rfl|hy
   ·exact hx
   exact zix hx ((List.pairwise_cons.1 h).1 y hy)
  rename_i hx
  have hx':ltM x m=true:=ziw m x (by simpa using hx);refine List.pairwise_cons.2 ⟨λy hy=>?_,XH m l (List.pairwise_cons.1 h).2⟩
  rcases List.mem_cons.1 ((XG m l).mem_iff.1 hy)with rfl|hy
  ·exact hx'
  exact(List.pairwise_cons.1 h).1 y hy
theorem qz:∀l:List zA,(Zf l).Pairwise (λa b=>ltM a b=true)
 | []=>List.Pairwise.nil
 |x::l=>XH x _ (qz l)
theorem Zl:∀(a b:List zA),a.Perm b->a.Pairwise (λa b=>ltM a b=true)->b.Pairwise (λa b=>ltM a b=true)->(a.map (·.1)).Nodup->a=b
 | [],b,h,_,_,_=>(List.nil_perm.1 h).symm ▸ rfl
 |x::a,[],h,_,_,_=>by cases List.perm_nil.1 h
 |x::a,y::b,h,ha,hb,hn=>by
  have hxb:x∈y::b:=h.mem_iff.1 (List.mem_cons_self ..);have hya:y∈x::a:=h.mem_iff.2 (List.mem_cons_self ..)
  have hxy:x=y:=by
   rcases List.mem_cons.1 hya with e|hy
   ·exact e.symm
   rcases List.mem_cons.1 hxb with e|hx
   ·exact e
   have h1:=(List.pairwise_cons.1 ha).1 y hy
   have h2:=(List.pairwise_cons.1 hb).1 x hx;have h3:=zcl h1 h2;have h4:=(List.nodup_cons.1 hn).1;exact absurd (List.mem_map.2 ⟨y,hy,h3.symm⟩) h4
  subst hxy;rw [Zl a b ((List.perm_cons x).1 h) (List.pairwise_cons.1 ha).2 (List.pairwise_cons.1 hb).2 (List.nodup_cons.1 hn).2]
theorem zab(l:List zA):flatK zg 3 l.toArray=(l.flatMap zg).toArray:=by
 have ac:(l.flatMap zg).length=l.length*3:=by
  induction l with
  |nil=>rfl
  |cons x l ih=>rw [List.flatMap_cons,N1,ih,List.length_cons];simp [zg];omega
 apply Array.ext
 ·simp [ac]
 intro t h1 h2
 have ht:t<l.length*3:=by simpa using h1
 have hk:t / 3<l.length:=by omega
 have hx:l[t / 3]?=some l[t / 3]:=N3 hk;have hf:=x7 l (t / 3) _ hx (t % 3) (Nat.mod_lt _ (by omega));rw [show t / 3*3+t % 3=t by omega] at hf
 have h3:(l.flatMap zg)[t]?=some ((l.flatMap zg).toArray[t]):=by
  rw [N3 (by rw [ac];exact ht)];simp
 have aa:=get_flatK zg 3 l.toArray t (by simpa using ht);rw [getElem!_pos _ t h1] at aa;rw [aa];rw [h3] at hf;have h4:l.toArray[t / 3]! =l[t / 3]:=by rw [getElem!_pos _ _ (by simpa using hk)];simp
 rw [h4];have ad:t % 3<(zg l[t / 3]).length:=by simp [zg];omega
 rw [N3 ad] at hf;rw [getElem!_pos (zg l[t / 3]) (t % 3) ad];exact(Option.some.inj hf).symm
theorem zmD:Yc Tryz.prog 436 294 3 32 (.agg #[.int .i64 0,.int .u32 0,.string ⟨#[]⟩]):=⟨Tryz.underlying436,by kernel_rfl,rfl,by decide,by decide⟩
theorem zgo {W:World}{g n:Nat}{cur:Array Value}{e:TypeId}(hg:W.heap[g]?=some (.cells cur e (0,0)))(hs:n*3<=cur.size)(l:List zA)(hl:l.length=n)(m:Nat)(os:Array Obj):
 Mod (λk=>k=g) W (sortWorldK zg 3 W g 0 m l.toArray os)/\∃cur',(sortWorldK zg 3 W g 0 m l.toArray os).heap[g]?=some (.cells cur' e (0,0))/\cur'.size=cur.size/\cur'.toList.take (n*3)=l.flatMap zg:=by
 have ac:(l.flatMap zg).length=n*3:=by
  rw [← hl];clear hl hs
  induction l with
  |nil=>rfl
  |cons x l ih=>rw [List.flatMap_cons,N1,ih,List.length_cons];simp [zg];omega
 have ae:g<W.heap.size:=(N5.1 hg).1
 have aa:(sortWorldK zg 3 W g 0 m l.toArray os).heap=(W.heap.modify g (onCells (putCells id 0 (l.flatMap zg).toArray)))++os:=by
  rw [← zab];rfl
 refine⟨⟨rfl,rfl,rfl,by rw [aa];simp,λk hk hn=>?_⟩,putCells id 0 (l.flatMap zg).toArray cur,?_,by simp [putCells],?_⟩
 ·rw [aa,Array.getElem?_append_left (by simpa using hk),Array.getElem?_modify,if_neg (λe=>hn e.symm)]
 ·rw [aa,Array.getElem?_append_left (by simpa using ae),Array.getElem?_modify,if_pos rfl,hg];rfl
 apply List.ext_getElem?
 intro k;rw [List.getElem?_take]
 by_cases hk:k<n*3
 ·rw [if_pos hk]
  have af:k<cur.size:=by omega
  have ad:k<(l.flatMap zg).length:=by omega
  unfold putCells;rw [Array.getElem?_toList,Array.getElem?_mapIdx,Array.getElem?_eq_getElem af,Option.map_some,if_pos (by rw [List.size_toArray,ac];omega)];rw [Nat.sub_zero,getElem!_pos (l.flatMap zg).toArray k (by simpa using ad),N3 ad];simp
 rw [if_neg hk,List.getElem?_eq_none (by omega)]
def zkk(g cap:Nat)(l:List zA)(W:World)(e:Ending)(W':World):Prop:=
 e=.returned (.tuple #[])/\Mod (λk=>k=g) W W'/\Row W' 294 3 (.slice (some ⟨g,0,none⟩) l.length cap) l.length ((Zf l).flatMap zg)
theorem zkl(g cap:Nat)(l:List zA)(hn:(l.map (·.1)).Nodup)(hl:l.length<=1073741824)(W:World)(h:Row W 294 3 (.slice (some ⟨g,0,none⟩) l.length cap) l.length (l.flatMap zg)):
 Calls Tryz.prog 296 #[.slice (some ⟨g,0,none⟩) l.length cap,.func (.func 297) #[] #[]] W (zkk g cap l W):=by
 rcases h.2 with⟨h0, -⟩|⟨g',cap',cur,h0, -,hg,hc,hm,hs,ht⟩
 ·cases h0
 cases h0
 have eg:∀args w,(callFunc 297 args).run Tryz.prog w=.ok (.enter 297 args) w:=enters_of Tryz.func297 (by kernel_rfl) rfl;have ah:(l.flatMap zg).length=l.length*3:=h.1
 have hH:HoldsK zg 3 W g 0 l.toArray:=by
  unfold HoldsK;rw [zab];intro j hj;have am:j<(l.flatMap zg).length:=by simpa using hj
  have hB:Blk W g cur 294:=hg;refine⟨?_,by rw [hB.frozen]⟩;rw [hB.cell,Nat.zero_add];have h1:(l.flatMap zg)[j]?=cur[j]?:=by rw [← ht,List.getElem?_take,if_pos (by omega)];simp
  rw [← h1,N3 am,getElem!_pos (l.flatMap zg).toArray j hj];simp
 have ad:=AnyQ.slices_SortFunc Tryz.sortPend 3 Tryz.isAgg294 Tryz.sizeOf294 zg (λ_=>rfl) (λx v hv=>by simp [zg] at hv;rcases hv with rfl|rfl|rfl<;>rfl) zkY zm0 297 #[] g 0 cap l.toArray W eg (zlx g 0 l.toArray.size W) hH (N5.1 hg).1 (by simp;omega)
 change Calls Tryz.prog 296 _ _ _ at ad
 refine ad.mono ?_;rintro e W'⟨rfl,d',n,os,hp,al,rfl⟩;obtain⟨l',rfl⟩:∃l':List zA,d'=l'.toArray:=⟨d'.toList,by simp⟩;have ai:l'.length=l.length:=by simpa using hp.1
 have ac:l'.Perm l:=by
  have h3:(l'.take l.length).Perm l:=by simpa [ai] using hp.2.2
  rwa [List.take_of_length_le (by omega)] at h3
 have aa:l'.Pairwise (λa b=>ltM a b=true):=by
  rw [List.pairwise_iff_getElem];intro i j hi hj hij;have h4:=al i j (Nat.zero_le _) hij (by simp;omega);rw [getElem!_pos l'.toArray j (by simpa using hj),getElem!_pos l'.toArray i (by simpa using hi)] at h4;exact zgn (by simpa using h4)
 have ak:l'=Zf l:=Zl l' (Zf l) (ac.trans (vV l).symm) aa (qz l) ((ac.map (·.1)).nodup_iff.2 hn);obtain⟨af,ae,ag,an,aj⟩:=zgo hg (by omega) l' ai n os;refine⟨rfl,af,?_,.inr ⟨g,cap,ae,rfl,Nat.zero_le _,ag,hc,hm,by omega,?_⟩⟩
 ·rw [← ah];exact((vV l).flatMap_right zg).length_eq
 rw [aj,ak]
end Go.Proofs.YtofppfoioodblaaGreatDoor
namespace Go.Proofs.YtofppfoioodblaaGreatDoor
open Go Go.RowKit Go.Shelf Go.Extern.Stop Go.Stop Go.Extern Go.Lib
attribute [local go_sem] Oper.semAt_some zB zp
theorem Qz(cf:Value)(w:World):Calls Tryz.prog 344 #[.slice none 0 0,.int .i64 0,.int .i64 0,cf] w λe w'=>e=.returned (.tuple #[])/\w'=w:=by
 go_enter Tryz.func344,Tryz.ntmps344
 go_wp2
 go_loop [8] (λp8=>p8=.int .i64 1) (λ_=>0)
 case atStart=>rfl
 case round=>
  subst hrel;go_wp2;go_end0
  exact⟨rfl,rfl⟩
theorem zkm(cf:Value)(n:Int)(w:World):Calls Tryz.prog 330 #[.slice none 0 0,.int .i64 0,.int .i64 0,.int .i64 n,cf] w λe w'=>e=.returned (.tuple #[])/\w'=w:=by
 go_enter Tryz.func330,Tryz.ntmps330
 go_wp2
 go_loop [1,2] (λp1 p2=>p1=.int .i64 0/\p2=.int .i64 0) (λ_ _=>0)
 case atStart=>exact⟨rfl,rfl⟩
 case round=>
  obtain⟨rfl,rfl⟩:=hrel;go_wp2_with fail
  refine(Qz _ _).mono ?_;rintro e w1⟨rfl,aa⟩;obtain rfl:=aa.symm;go_wp2;refine bodyPost_ret (results_none rfl _ _ _) rfl ?_;exact⟨rfl,rfl⟩
theorem ziy(cf:Value)(w:World):Calls Tryz.prog 296 #[.slice none 0 0,cf] w λe w'=>e=.returned (.tuple #[])/\w'=w:=by
 have hb:=λW=>Tryz.bits_Len 0 W (by omega) (by omega)
 replace hb:=hid hb
 go_enter Tryz.func296,Tryz.ntmps296
 go_wp2_with fail
 refine(hb.out _).mono ?_;rintro e w1⟨rfl,aa⟩;obtain rfl:=aa.symm;go_wp2_with fail
 refine(zkm _ _ _).mono ?_;rintro e w2⟨rfl,ac⟩;obtain rfl:=ac.symm;go_wp2;go_end0
 exact⟨rfl,rfl⟩
def xo(L:List (MapEntry×zA))(seen:Array Nat):List zA:=(L.filter λq=> !seen.contains q.1.born).map (·.2)
theorem zd3(L:List (MapEntry×zA)):xo L #[]=L.map (·.2):=by
 unfold xo;rw [List.filter_eq_self.2];intro q _;simp
theorem Y2(q:MapEntry×zA)(L:List (MapEntry×zA))(seen:Array Nat)(h:seen.contains q.1.born=false):xo (q::L) seen=q.2::xo L seen:=by
 unfold xo;rw [List.filter_cons_of_pos (by rw [h];rfl)];rfl
theorem XI(q:MapEntry×zA)(L:List (MapEntry×zA))(seen:Array Nat)(h:seen.contains q.1.born=true):xo (q::L) seen=xo L seen:=by
 unfold xo;rw [List.filter_cons_of_neg (by rw [h];simp)]
theorem XJ(e:MapEntry)(m:zA):∀(L:List (MapEntry×zA)) (seen:Array Nat),(L.map (·.1.born)).Nodup->(e,m)∈L->seen.contains e.born=false->(xo L seen).Perm (m::xo L (seen.push e.born))
 | [],seen,_,h,_=>by cases h
 |q::L,seen,hn,h,hs=>by
  have hn':=List.nodup_cons.1 hn
  rcases List.mem_cons.1 h with h|h
  ·subst h
   have hrest:xo L (seen.push e.born)=xo L seen:=by
    unfold xo
    congr 1
    apply List.filter_congr
    intro q hq;have aa:q.1.born≠e.born:=λe'=>hn'.1 (List.mem_map.2 ⟨q,hq,e'⟩)
    rw [contains_push];simp [aa]
   rw [Y2 (e,m) L seen hs,XI (e,m) L (seen.push e.born) (by rw [contains_push];simp),hrest]
  have ih:=XJ e m L seen hn'.2 h hs
  have aa:q.1.born≠e.born:=λe'=>hn'.1 (List.mem_map.2 ⟨(e,m),h,e'.symm⟩)
  cases hx:seen.contains q.1.born
  ·rw [Y2 q L seen hx,Y2 q L (seen.push e.born) (by rw [contains_push,hx];simp [aa])]
   exact(ih.cons q.2).trans (List.Perm.swap _ _ _)
  rw [XI q L seen hx,XI q L (seen.push e.born) (by rw [contains_push,hx];rfl)]
  exact ih
theorem zd4(L:List (MapEntry×zA))(seen:Array Nat)(h:∀q∈L,seen.contains q.1.born=true):xo L seen=[]:=by
 unfold xo;rw [List.filter_eq_nil_iff.2]
 ·rfl
 intro q hq;rw [h q hq];simp
theorem zgp(B:Nat)(w:World):Calls Tryz.prog 239 #[.pointer (some ⟨B,0,none⟩)] w λe w'=>
 e=.returned (.func (.func 295) #[] #[.pointer (some ⟨w.heap.size,0,none⟩)])/\w'=w.alloc (.cells #[.pointer (some ⟨B,0,none⟩)] 96):=by
 go_enter Tryz.func239,Tryz.ntmps239
 go_wp2;go_ret
 exact⟨rfl,rfl⟩
end Go.Proofs.YtofppfoioodblaaGreatDoor
