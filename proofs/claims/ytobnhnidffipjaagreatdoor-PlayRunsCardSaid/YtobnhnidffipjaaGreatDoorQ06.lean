/- PARTS OF THE PROOF. -/
import Derived.Test.YtobnhnidffipjaaGreatDoorQ02
import Derived.Test.YtobnhnidffipjaaGreatDoorQ05
set_option maxRecDepth 8000
set_option maxHeartbeats 4000000
open Go.Proofs.Tryz
namespace Go.Proofs.YtobnhnidffipjaaGreatDoor
section
open Go Go.RowKit Go.Shelf Go.Extern.Stop Go.Stop Go.Extern Go.Lib
attribute [local go_sem] Oper.semAt_some zw zn
def qW(e:jF)(mv:Value):Value:=.agg #[.int .i64 e.kind,.int .u32 e.epoch,.int .i64 e.ver,mv]
abbrev qc(w:World)(mv:Value)(l:List zD):Prop:=Src w mv 3 l.length (l.flatMap zh)
theorem Src.shape {w:World}{v:Value}{size n:Nat}{xs:List Value}(h:Src w v size n xs):∃a c,v=.slice a n c:=by
 rcases h.2 with⟨rfl,rfl⟩|⟨b,off,cap,rfl, -⟩
 ·exact⟨_,_,rfl⟩
 ·exact⟨_,_,rfl⟩
theorem zeA(e:jF)(mv:Value)(w:World)(hm:qc w mv e.msgs):Calls prog 185 #[qW e mv] w λr w'=>r=.returned (.bool (ZY e))/\Below w.heap.size w w':=by
 obtain⟨kind,epoch,ver,msgs⟩:=e;obtain⟨a,c,rfl⟩:=hm.shape;clear hm;obtain⟨R,hR⟩:∃R,ZY ⟨kind,epoch,ver,msgs⟩=R:=⟨_,rfl⟩;rw [hR];unfold ZY at hR;unfold qW;simp only at hR⊢
 by_cases h1:kind=1
 ·rw [if_pos h1] at hR
  subst h1;subst hR;have t1:(ver==0)=decide (ver=0):=rfl
  go_enter func185,ntmps185
  go_wp2;go_ret
  exact⟨by rw [← t1];rfl,pbx⟩
 ·have t1:(kind==1)=false:=by simpa using h1
  rw [if_neg h1] at hR
  by_cases h2:kind=2
  ·rw [if_pos h2] at hR
   subst h2
   by_cases hl:msgs.length=0
   ·have t2:((msgs.length:Int)==0)=true:=by rw [hl];rfl
    by_cases hv0:0<=ver
    ·have t3:decide (0<=ver)=true:=by simpa using hv0
     by_cases hv1:ver<=255
     ·have t4:decide (ver<=255)=true:=by simpa using hv1
      have hr:R=true:=by rw [← hR];simp [hl,hv0,hv1]
      subst hr;clear hR hl hv0 hv1 h1 t1
      go_enter func185,ntmps185
      go_wp2;go_ret
      exact⟨rfl,pbx⟩
     ·have t4:decide (ver<=255)=false:=by simpa using hv1
      have hr:R=false:=by rw [← hR];simp [hv1]
      subst hr;clear hR hl hv0 hv1 h1 t1
      go_enter func185,ntmps185
      go_wp2;go_ret
      exact⟨rfl,pbx⟩
    ·have t3:decide (0<=ver)=false:=by simpa using hv0
     have hr:R=false:=by rw [← hR];simp [hv0]
     subst hr;clear hR hl hv0 h1 t1
     go_enter func185,ntmps185
     go_wp2;go_ret
     exact⟨rfl,pbx⟩
   ·have t2:((msgs.length:Int)==0)=false:=by simp;intro h;exact hl (by simp [h])
    have hr:R=false:=by rw [← hR];simp [hl]
    subst hr;clear hR hl h1 t1
    go_enter func185,ntmps185
    go_wp2;go_ret
    exact⟨rfl,pbx⟩
  ·have t2:(kind==2)=false:=by simpa using h2
   rw [if_neg h2] at hR
   by_cases h3:kind=3
   ·rw [if_pos h3] at hR
    subst h3
    by_cases hl:msgs.length=0
    ·have t3:((msgs.length:Int)==0)=true:=by rw [hl];rfl
     have hr:R=(ver==0):=by rw [← hR];simp [hl];rfl
     subst hr;clear hR hl h1 h2 t1 t2
     go_enter func185,ntmps185
     go_wp2;go_ret
     exact⟨rfl,pbx⟩
    ·have t3:((msgs.length:Int)==0)=false:=by simp;intro h;exact hl (by simp [h])
     have hr:R=false:=by rw [← hR];simp [hl]
     subst hr;clear hR hl h1 h2 t1 t2
     go_enter func185,ntmps185
     go_wp2;go_ret
     exact⟨rfl,pbx⟩
   ·have t3:(kind==3)=false:=by simpa using h3
    rw [if_neg h3] at hR;subst hR;clear h1 h2 h3
    go_enter func185,ntmps185
    go_wp2;go_ret
    exact⟨rfl,pbx⟩
theorem zaM(n:Int)(w:World):Calls prog 187 #[.int .i64 n] w λr w'=>r=.returned (.string (bs [UInt8.ofNat (n % 256).toNat]))/\Below w.heap.size w w':=by
 have hcv:=run_convert_bytes_arg (P:=prog) (w.alloc (.cells #[.int .u8 (n % 256)] 5)) 130 5 Tryz.underlying130 Tryz.underlying5 w.heap.size 0 1 1 [n % 256] rfl (λi hi=>by obtain rfl:i=0:=(by omega);simp) 9 Tryz.underlying9
 have hs:strOfNums [n % 256]=bs [UInt8.ofNat (n % 256).toNat]:=by
  unfold strOfNums bs;simp
 rw [hs] at hcv;clear hs
 go_enter func187,ntmps187
 go_wp2;go_ret
 exact⟨rfl,pbx⟩
theorem zkl(a b c d:List UInt8):Lib.join [a,b,c,d] []=a++b++c++d:=by simp [Lib.join,List.intercalate]
theorem zck(bk:Nat)(x y z u:List UInt8)(w:World)(hk:Blk w bk #[.string (bs x),.string (bs y),.string (bs z),.string (bs u)] 9)(hl:(x++y++z++u).length<=140737488355328):
 Calls prog 186 #[.slice (some ⟨bk,0,none⟩) 4 4] w λe w'=>e=.returned (.string (bs (x++y++z++u)))/\Below w.heap.size w w':=by
 have hj:=Tryz.strings_Join bk 0 4 [bs x,bs y,bs z,bs u] ⟨#[]⟩ w (λj t hz=>by
  have hc:=hk.cell j;rw [Nat.zero_add,hc];obtain rfl|rfl|rfl|rfl|h:j=0∨j=1∨j=2∨j=3∨4<=j:=by omega
  ·simp at hz;subst hz;rfl
  ·simp at hz;subst hz;rfl
  ·simp at hz;subst hz;rfl
  ·simp at hz;subst hz;rfl
  ·rw [List.getElem?_eq_none (by simpa using h)] at hz;cases hz) hk.lt (by simp) (by simp) (by
   simp only [List.map_cons,List.map_nil,qy]
   rw [zkl];omega)
 simp only [List.map_cons,List.map_nil,qy] at hj;rw [zkl] at hj;replace hj:=G hj;clear hk hl
 go_enter func186,ntmps186
 go_wp2_with (go_at_call 113;refine hj.out.mono ?_;rintro e w' ⟨rfl,hb⟩)
 go_ret
 exact⟨by simp [bs],hb⟩
theorem zgj(l:List zD):(yA l).1.length<=65000:=by
 unfold yA
 split
 ·simp
 ·split
  ·rename_i h1 h2
   have:=Ze l (List.all_eq_true.1 h2);simp only [N1,U2];omega
  ·simp
theorem Yf(e:jF)(mv:Value)(w:World)(hm:qc w mv e.msgs)(hl:e.msgs.length<=1073741824):Calls prog 137 #[qW e mv] w λr w'=>
 r=.returned (.tuple #[.string (bs (vo e).1),.int .i64 (vo e).2])/\Below w.heap.size w w':=by
 obtain⟨R,hR⟩:∃R,vo e=R:=⟨_,rfl⟩;rw [hR];unfold vo at hR;have hsh:=zeA e mv;have hpk:=zdI mv e.msgs;unfold qW at hsh⊢;replace hsh:=G hsh;replace hpk:=G hpk;replace hm:=G hm
 cases h1:ZY e
 ·rw [if_pos h1] at hR
  subst hR
  go_enter func137,ntmps137
  go_wp2_with (go_at_call 185;refine(hsh.out _ (hm.out.below (pbx))).mono ?_;rintro r w1 ⟨rfl,hb1⟩;rw [h1])
  go_ret2
  exact⟨rfl,pbx⟩
 ·rw [if_neg (by simp [h1])] at hR
  by_cases hp0:(yA e.msgs).2=0
  ·rw [if_neg (by simpa using hp0)] at hR
   have t2:((yA e.msgs).2 !=0)=false:=by simpa using hp0
   clear hp0
   go_enter func137,ntmps137
   go_wp2_with (first
    |(go_at_call 185;refine(hsh.out _ (hm.out.below (pbx))).mono ?_;rintro r w1 ⟨rfl,hb1⟩;rw [h1]
      have kb:Blk w1 w.heap.size #[.int .i64 e.kind,.int .u32 e.epoch,.int .i64 e.ver,mv] 178:=Blk.call (bkx) hb1
      have ke:=kb.cell)
    |(go_at_call 81;refine(hpk.out _ (hm.out.below (pbx)) hl).mono ?_;rintro r w2 ⟨rfl,hb2⟩))
   have k2:=(kb.call hb2).drew;have hbw:Below w.heap.size w w2.drew:=pbx;clear ke t2 kb
   generalize hpp:(yA e.msgs).1=pp at*
   replace hpp:=G hpp;refine zd [O 0,O 1,O 3,O 4,O 6,O 7,O 9,E 2,E 5,E 8,E 10,E 11,O 12] none (λw'=>Blk w' w.heap.size #[.int .i64 e.kind,.int .u32 e.epoch,.int .i64 e.ver,mv] 178/\True) (by kernel_rfl) (by kernel_rfl) ⟨k2,trivial⟩ ?_
   (repeat (refine za (v:=?_) rfl rfl (λw' h=>?_) (λK k=>?_);rotate_left;obtain⟨f1,_⟩:=h;have e1:=f1.cell;go_simp;(try with_reducible rfl);go_simp;refine k _ ?_;clear k K))
   refine zc rfl (λK hK=>?_)
   go_wp2_with (go_at_call 187;refine(zaM _ _).mono ?_;rintro r w3 ⟨rfl,hb3⟩)
   have k3:=k2.call hb3;refine hK.out _ _ (λ_=>⟨k3,trivial⟩) ?_;clear hK K;refine zc rfl (λK hK=>?_)
   go_wp2_with (go_at_call 109;refine(yF _ _).mono ?_;rintro r w4 ⟨rfl,hb4⟩)
   have k4:=k3.call hb4;refine hK.out _ _ (λ_=>⟨k4,trivial⟩) ?_;clear hK K;refine zc rfl (λK hK=>?_)
   go_wp2_with (go_at_call 187;refine(zaM _ _).mono ?_;rintro r w5 ⟨rfl,hb5⟩)
   have k5:=k4.call hb5;refine hK.out _ _ (λ_=>⟨k5,trivial⟩) ?_;clear hK K;refine zc rfl (λK hK=>?_);go_wp2;have k6:=k5.alloc (.cells #[.string (bs [UInt8.ofNat (e.kind % 256).toNat]),.string (bs (le4 e.epoch)),.string (bs [UInt8.ofNat (e.ver % 256).toNat]),.string (bs pp)] 9);refine hK.out _ _ (λ_=>⟨k6,trivial⟩) ?_;clear hK K;refine zc rfl (λK hK=>?_)
   go_wp2_with (go_at_call 186;refine(zck _ _ _ _ _ _ (Blk.new rfl) ?_).mono ?_)
   ·have:=zgj e.msgs
    rw [hpp.out] at this;simp only [N1,U2,jb];omega
   rintro r w6⟨rfl,hb6⟩
   generalize([UInt8.ofNat (e.kind % 256).toNat] ++le4 e.epoch++ [UInt8.ofNat (e.ver % 256).toNat] ++pp)=full at*
   have hfs:=zC full;go_wp2;refine hK.out _ _ (λ_=>⟨k6.call hb6,trivial⟩) ?_;clear hK K
   (repeat (refine za (v:=?_) rfl rfl (λw' h=>?_) (λK k=>?_);rotate_left;obtain⟨f1,_⟩:=h;have e1:=f1.cell;go_simp;(try with_reducible rfl);go_simp;refine k _ ?_;clear k K))
   refine ze ?_;have hbw6:Below w.heap.size w w6:=zf (zg (zf (zf (zf hbw hb3) hb4) hb5) _) hb6;clear hb6 hb5 hb4 hb3 k2 k3 k4 k5 k6
   by_cases hlen:4000<full.length
   ·rw [if_pos hlen] at hR
    subst hR;have t4:decide (4000<((bs full).size:Int))=true:=by rw [hfs];simp;omega
    clear hlen hfs;go_wp2;go_ret2
    exact⟨rfl,hbw6⟩
   ·rw [if_neg hlen] at hR
    subst hR;have t4:decide (4000<((bs full).size:Int))=false:=by rw [hfs];simp;omega
    clear hlen hfs;go_wp2;go_ret2
    exact⟨rfl,hbw6⟩
  ·rw [if_pos hp0] at hR
   subst hR;have t2:((yA e.msgs).2 !=0)=true:=by simpa using hp0
   clear hp0
   go_enter func137,ntmps137
   go_wp2_with (first
    |(go_at_call 185;refine(hsh.out _ (hm.out.below (pbx))).mono ?_;rintro r w1 ⟨rfl,hb1⟩;rw [h1]
      have kb:Blk w1 w.heap.size #[.int .i64 e.kind,.int .u32 e.epoch,.int .i64 e.ver,mv] 178:=Blk.call (bkx) hb1
      have ke:=kb.cell)
    |(go_at_call 81;refine(hpk.out _ (hm.out.below (pbx)) hl).mono ?_;rintro r w2 ⟨rfl,hb2⟩))
   go_ret2
   exact⟨rfl,pbx⟩
theorem zh5(e:jF):Jt e=((vo e).2==0):=rfl
theorem zeB(e:jF)(mv:Value)(w:World)(hm:qc w mv e.msgs)(hl:e.msgs.length<=1073741824):Calls prog 252 #[qW e mv] w λr w'=>
 r=.returned (.bool (Jt e))/\Below w.heap.size w w':=by
 rw [zh5];have hen:=Yf e mv;unfold qW at hen⊢;replace hen:=G hen;replace hm:=G hm
 go_enter func252,ntmps252
 go_wp2_with (go_at_call 137;refine(hen.out _ (hm.out.below (pbx)) hl).mono ?_;rintro r w1 ⟨rfl,hb1⟩)
 go_ret
 exact⟨rfl,pbx⟩
end
open Go
theorem Yg {V:Type}(k:MId):∀(l:List (MId×V)),(del k l).length<=l.length
 | []=>N0 _
 |(k',v')::l=>by
  have ih:=Yg k l;unfold del
  split
  ·simp
  ·simp;exact ih
theorem QM {V:Type}{k:MId}{v:V} :∀ {l:List (MId×V)},zJ k l=some v->(del k l).length+1=l.length
 | [],h=>by cases h
 |(k',v')::l,h=>by
  by_cases hk:k=k'
  ·simp [del,hk]
  ·have h':zJ k l=some v:=by simpa [zJ,hk] using h
   have ih:=QM h';simp [del,hk]
   exact ih
theorem YG:∀(n m:Nat)(ws:List (MId×zD)) (x:zD),zb7 ws->(del x.1 ws).length<=n->(del x.1 ws).length<=m->zW n ws x=zW m ws x
 |0,0,ws,x,_,_,_=>rfl
 |0,m+1,ws,x,hw,h0,hm=>by
  have hn:del x.1 ws=[]:=N9 (by omega);simp [zW,hn,zJ]
 |n+1,0,ws,x,hw,h0,hm=>by
  have hn:del x.1 ws=[]:=N9 (by omega);simp [zW,hn,zJ]
 |n+1,m+1,ws,x,hw,h0,hm=>by
  unfold zW
  cases hl:zJ (x.1.1,(x.1.2+1)% 4294967296) (del x.1 ws)with
  |none=>rfl
  |some y=>
   have hy:y.1=(x.1.1,(x.1.2+1)% 4294967296):=((hw.del x.1) _ (xx hl)).1;have hlen:=QM hl;rw [← hy] at hlen;have:=YG n m (del x.1 ws) y (hw.del x.1) (by omega) (by omega);simp only [this]
def X7(s:List (MId×zD)×Option zD):List zD:=match s.2 with|none=>[] |some x=>(zW s.1.length s.1 x).2
def zaN(s:List (MId×zD)×Option zD):List (MId×zD):=match s.2 with|none=>s.1|some x=>(zW s.1.length s.1 x).1
def QN(ws:List (MId×zD))(x:zD):List (MId×zD)×Option zD:=(del x.1 ws,zJ (x.1.1,(x.1.2+1)% 4294967296) (del x.1 ws))
theorem zh6 {ws:List (MId×zD)}{x:zD}(hw:zb7 ws):X7 (ws,some x)=x::X7 (QN ws x)/\zaN (ws,some x)=zaN (QN ws x):=by
 have hle:=Yg x.1 ws
 show(zW ws.length ws x).2=_/\(zW ws.length ws x).1=_
 unfold QN
 cases hl:zJ (x.1.1,(x.1.2+1)% 4294967296) (del x.1 ws)with
 |none=>
  cases hn:ws.length with
  |zero=>exact⟨rfl,rfl⟩
  |succ n=>simp [zW,hl,X7,zaN]
 |some y=>
  have hy:y.1=(x.1.1,(x.1.2+1)% 4294967296):=((hw.del x.1) _ (xx hl)).1;have hlen:=QM hl;rw [← hy] at hlen
  cases hn:ws.length with
  |zero=>omega
  |succ n=>
   have:=YG n (del x.1 ws).length (del x.1 ws) y (hw.del x.1) (by omega) (by omega);simp [zW,hl,X7,zaN,this]
theorem zeC {ws:List (MId×zD)}{x y:zD}(hw:zb7 ws)(h:(QN ws x).2=some y):y.1.1=x.1.1/\zG y=true:=by
 have h1:=(hw.del x.1) _ (xx h);exact⟨by rw [h1.1],h1.2⟩
theorem Yh:∀(n:Nat)(ws:List (MId×zD)) (x:zD),zb7 ws->zG x=true->zb7 (zW n ws x).1/\∀y∈(zW n ws x).2,zG y=true
 |0,ws,x,hw,hx=>⟨hw.del _,by simp [zW,hx]⟩
 |n+1,ws,x,hw,hx=>by
  unfold zW
  cases hl:zJ (x.1.1,(x.1.2+1)% 4294967296) (del x.1 ws)with
  |none=>exact⟨hw.del _,by simp [hx]⟩
  |some y=>
   have hy:=((hw.del x.1) _ (xx hl)).2;have ih:=Yh n (del x.1 ws) y (hw.del _) hy;exact⟨ih.1,by simpa [hx] using ih.2⟩
theorem X8:∀(l:List zD)(tk:List Nat),(∀n∈tk,n<=4294967294)->(∀y∈l,zG y=true)->∀n∈xY tk l,n<=4294967294
 | [],tk,h,_=>h
 |x::l,tk,h,hl=>by
  show∀n∈xY (tk.set x.1.1.toNat x.1.2) l,n<=4294967294
  refine X8 l _ (λn hn=>?_) (λy hy=>hl y (U7 _ hy))
  rcases List.mem_or_eq_of_mem_set hn with h1|h1
  ·exact h n h1
  ·have:=hl x (List.mem_cons_self ..)
   simp [zG] at this
   omega
theorem xf(tk:List Nat)(l:List zD):(xY tk l).length=tk.length:=by
 unfold xY
 induction l generalizing tk with
 |nil=>rfl
 |cons x l ih=>rw [List.foldl_cons,ih];simp
theorem zeD(tk:List Nat)(l:List zD)(x:zD):xY tk (l++ [x])=(xY tk l).set x.1.1.toNat x.1.2:=by
 simp [xY,List.foldl_append]
theorem Z0:∀(n:Nat)(ws:List (MId×zD)) (x:zD),(zW n ws x).2.length<=n+1
 |0,ws,x=>by simp [zW]
 |n+1,ws,x=>by
  unfold zW
  cases zJ (x.1.1,(x.1.2+1)% 4294967296) (del x.1 ws)with
  |none=>simp
  |some y=>have:=Z0 n (del x.1 ws) y;simp;omega
theorem vO.row {b:vl}(h:vO b){m:zD}(hm:zG m=true)(n:Nat):vO {tk:=xY b.tk (zW n b.ws m).2,log:=b.log++(zW n b.ws m).2,ws:=(zW n b.ws m).1} :=
 ⟨by rw [xf];exact h.sixteen,X8 _ _ h.most (Yh n b.ws m h.keys hm).2,(Yh n b.ws m h.keys hm).1⟩
