/- PARTS OF THE PROOF. -/
import Derived.Deep.Slices
import Derived.Deep.Fields
import Derived.ChangeSame
import Derived.Lib.SmallJoins
import Derived.Test.YtobnhnidffipjaaGreatDoorK01
import Derived.Test.YtobnhnidffipjaaGreatDoorK02
import Derived.Test.YtobnhnidffipjaaGreatDoorK05
set_option maxRecDepth 8000
set_option maxHeartbeats 4000000
open Go.Proofs.Tryz
namespace Go.Proofs.YtobnhnidffipjaaGreatDoor
section
open Go Go.RowKit Go.Shelf Go.Extern.Stop Go.Stop Go.Extern Go.Lib
attribute [local go_sem] Oper.semAt_some zw zm
def q8(e:jB)(mv:Value):Value:=.agg #[.int .i64 e.kind,.int .u32 e.epoch,.int .i64 e.ver,mv]
abbrev qh(w:World)(mv:Value)(l:List zB):Prop:=Src w mv 3 l.length (l.flatMap zi)
theorem Src.shape {w:World}{v:Value}{size n:Nat}{xs:List Value}(h:Src w v size n xs):∃a c,v=.slice a n c:=by
 rcases h.2 with⟨rfl,rfl⟩|⟨b,off,cap,rfl, -⟩
 ·exact⟨_,_,rfl⟩
 ·exact⟨_,_,rfl⟩
theorem zeq(e:jB)(mv:Value)(w:World)(hm:qh w mv e.msgs):Calls prog 185 #[q8 e mv] w λr w'=>r=.returned (.bool (Z2 e))/\Below w.heap.size w w':=by
 obtain⟨kind,epoch,ver,msgs⟩:=e;obtain⟨a,c,rfl⟩:=hm.shape;clear hm;obtain⟨R,hR⟩:∃R,Z2 ⟨kind,epoch,ver,msgs⟩=R:=⟨_,rfl⟩;rw [hR];unfold Z2 at hR;unfold q8;simp only at hR⊢
 by_cases h1:kind=1
 ·rw [if_pos h1] at hR
  subst h1;subst hR;have t1:(ver==0)=decide (ver=0):=rfl
  go_enter func185,ntmps185
  go_wp2;go_ret
  exact⟨by rw [← t1];rfl,pbx⟩
 ·have t1:(kind==1)=false:=by simpa using h1
  rw [if_neg h1] at hR
  by_cases h2:kind=2
  ·rw [if_pos h2] at hR
   subst h2
   by_cases hl:msgs.length=0
   ·have t2:((msgs.length:Int)==0)=true:=by rw [hl];rfl
    by_cases hv0:0<=ver
    ·have t3:decide (0<=ver)=true:=by simpa using hv0
     by_cases hv1:ver<=255
     ·have t4:decide (ver<=255)=true:=by simpa using hv1
      have hr:R=true:=by rw [← hR];simp [hl,hv0,hv1]
      subst hr;clear hR hl hv0 hv1 h1 t1
      go_enter func185,ntmps185
      go_wp2;go_ret
      exact⟨rfl,pbx⟩
     ·have t4:decide (ver<=255)=false:=by simpa using hv1
      have hr:R=false:=by rw [← hR];simp [hv1]
      subst hr;clear hR hl hv0 hv1 h1 t1
      go_enter func185,ntmps185
      go_wp2;go_ret
      exact⟨rfl,pbx⟩
    ·have t3:decide (0<=ver)=false:=by simpa using hv0
     have hr:R=false:=by rw [← hR];simp [hv0]
     subst hr;clear hR hl hv0 h1 t1
     go_enter func185,ntmps185
     go_wp2;go_ret
     exact⟨rfl,pbx⟩
   ·have t2:((msgs.length:Int)==0)=false:=by simp;intro h;exact hl (by simp [h])
    have hr:R=false:=by rw [← hR];simp [hl]
    subst hr;clear hR hl h1 t1
    go_enter func185,ntmps185
    go_wp2;go_ret
    exact⟨rfl,pbx⟩
  ·have t2:(kind==2)=false:=by simpa using h2
   rw [if_neg h2] at hR
   by_cases h3:kind=3
   ·rw [if_pos h3] at hR
    subst h3
    by_cases hl:msgs.length=0
    ·have t3:((msgs.length:Int)==0)=true:=by rw [hl];rfl
     have hr:R=(ver==0):=by rw [← hR];simp [hl];rfl
     subst hr;clear hR hl h1 h2 t1 t2
     go_enter func185,ntmps185
     go_wp2;go_ret
     exact⟨rfl,pbx⟩
    ·have t3:((msgs.length:Int)==0)=false:=by simp;intro h;exact hl (by simp [h])
     have hr:R=false:=by rw [← hR];simp [hl]
     subst hr;clear hR hl h1 h2 t1 t2
     go_enter func185,ntmps185
     go_wp2;go_ret
     exact⟨rfl,pbx⟩
   ·have t3:(kind==3)=false:=by simpa using h3
    rw [if_neg h3] at hR;subst hR;clear h1 h2 h3
    go_enter func185,ntmps185
    go_wp2;go_ret
    exact⟨rfl,pbx⟩
theorem zaE(n:Int)(w:World):Calls prog 187 #[.int .i64 n] w λr w'=>r=.returned (.string (bs [UInt8.ofNat (n % 256).toNat]))/\Below w.heap.size w w':=by
 have hcv:=run_convert_bytes_arg (P:=prog) (w.alloc (.cells #[.int .u8 (n % 256)] 5)) 130 5 Tryz.underlying130 Tryz.underlying5 w.heap.size 0 1 1 [n % 256] rfl (λi hi=>by obtain rfl:i=0:=(by omega);simp) 9 Tryz.underlying9
 have hs:strOfNums [n % 256]=bs [UInt8.ofNat (n % 256).toNat]:=by
  unfold strOfNums bs;simp
 rw [hs] at hcv;clear hs
 go_enter func187,ntmps187
 go_wp2;go_ret
 exact⟨rfl,pbx⟩
theorem zj6(a b c d:List UInt8):Lib.join [a,b,c,d] []=a++b++c++d:=by simp [Lib.join,List.intercalate]
theorem zch(bk:Nat)(x y z u:List UInt8)(w:World)(hk:Blk w bk #[.string (bs x),.string (bs y),.string (bs z),.string (bs u)] 9)(hl:(x++y++z++u).length<=140737488355328):
 Calls prog 186 #[.slice (some ⟨bk,0,none⟩) 4 4] w λe w'=>e=.returned (.string (bs (x++y++z++u)))/\Below w.heap.size w w':=by
 have hj:=Tryz.strings_Join bk 0 4 [bs x,bs y,bs z,bs u] ⟨#[]⟩ w (λj t hz=>by
  have hc:=hk.cell j;rw [Nat.zero_add,hc];obtain rfl|rfl|rfl|rfl|h:j=0∨j=1∨j=2∨j=3∨4<=j:=by omega
  ·simp at hz;subst hz;rfl
  ·simp at hz;subst hz;rfl
  ·simp at hz;subst hz;rfl
  ·simp at hz;subst hz;rfl
  ·rw [List.getElem?_eq_none (by simpa using h)] at hz;cases hz) hk.lt (by simp) (by simp) (by
   simp only [List.map_cons,List.map_nil,qI]
   rw [zj6];omega)
 simp only [List.map_cons,List.map_nil,qI] at hj;rw [zj6] at hj;replace hj:=G hj;clear hk hl
 go_enter func186,ntmps186
 go_wp2_with (go_at_call 113;refine hj.out.mono ?_;rintro e w' ⟨rfl,hb⟩)
 go_ret
 exact⟨by simp [bs],hb⟩
theorem zf8(l:List zB):(yD l).1.length<=65000:=by
 unfold yD
 split
 ·simp
 ·split
  ·rename_i h1 h2
   have:=Zh l (List.all_eq_true.1 h2);simp only [N1,U2];omega
  ·simp
theorem Yh(e:jB)(mv:Value)(w:World)(hm:qh w mv e.msgs)(hl:e.msgs.length<=1073741824):Calls prog 137 #[q8 e mv] w λr w'=>
 r=.returned (.tuple #[.string (bs (vo e).1),.int .i64 (vo e).2])/\Below w.heap.size w w':=by
 obtain⟨R,hR⟩:∃R,vo e=R:=⟨_,rfl⟩;rw [hR];unfold vo at hR;have hsh:=zeq e mv;have hpk:=zdA mv e.msgs;unfold q8 at hsh⊢;replace hsh:=G hsh;replace hpk:=G hpk;replace hm:=G hm
 cases h1:Z2 e
 ·rw [if_pos h1] at hR
  subst hR
  go_enter func137,ntmps137
  go_wp2_with (go_at_call 185;refine(hsh.out _ (hm.out.below (pbx))).mono ?_;rintro r w1 ⟨rfl,hb1⟩;rw [h1])
  go_ret2
  exact⟨rfl,pbx⟩
 ·rw [if_neg (by simp [h1])] at hR
  by_cases hp0:(yD e.msgs).2=0
  ·rw [if_neg (by simpa using hp0)] at hR
   have t2:((yD e.msgs).2 !=0)=false:=by simpa using hp0
   clear hp0
   go_enter func137,ntmps137
   go_wp2_with (first
    |(go_at_call 185;refine(hsh.out _ (hm.out.below (pbx))).mono ?_;rintro r w1 ⟨rfl,hb1⟩;rw [h1]
      have kb:Blk w1 w.heap.size #[.int .i64 e.kind,.int .u32 e.epoch,.int .i64 e.ver,mv] 178:=Blk.call (bkx) hb1
      have ke:=kb.cell)
    |(go_at_call 81;refine(hpk.out _ (hm.out.below (pbx)) hl).mono ?_;rintro r w2 ⟨rfl,hb2⟩))
   have k2:=(kb.call hb2).drew;have hbw:Below w.heap.size w w2.drew:=pbx;clear ke t2 kb
   generalize hpp:(yD e.msgs).1=pp at*
   replace hpp:=G hpp;refine zd [O 0,O 1,O 3,O 4,O 6,O 7,O 9,E 2,E 5,E 8,E 10,E 11,O 12] none (λw'=>Blk w' w.heap.size #[.int .i64 e.kind,.int .u32 e.epoch,.int .i64 e.ver,mv] 178/\True) (by kernel_rfl) (by kernel_rfl) ⟨k2,trivial⟩ ?_
   (repeat (refine za (v:=?_) rfl rfl (λw' h=>?_) (λK k=>?_);rotate_left;obtain⟨f1,_⟩:=h;have e1:=f1.cell;go_simp;(try with_reducible rfl);go_simp;refine k _ ?_;clear k K))
   refine zc rfl (λK hK=>?_)
   go_wp2_with (go_at_call 187;refine(zaE _ _).mono ?_;rintro r w3 ⟨rfl,hb3⟩)
   have k3:=k2.call hb3;refine hK.out _ _ (λ_=>⟨k3,trivial⟩) ?_;clear hK K;refine zc rfl (λK hK=>?_)
   go_wp2_with (go_at_call 109;refine(yH _ _).mono ?_;rintro r w4 ⟨rfl,hb4⟩)
   have k4:=k3.call hb4;refine hK.out _ _ (λ_=>⟨k4,trivial⟩) ?_;clear hK K;refine zc rfl (λK hK=>?_)
   go_wp2_with (go_at_call 187;refine(zaE _ _).mono ?_;rintro r w5 ⟨rfl,hb5⟩)
   have k5:=k4.call hb5;refine hK.out _ _ (λ_=>⟨k5,trivial⟩) ?_;clear hK K;refine zc rfl (λK hK=>?_);go_wp2;have k6:=k5.alloc (.cells #[.string (bs [UInt8.ofNat (e.kind % 256).toNat]),.string (bs (le4 e.epoch)),.string (bs [UInt8.ofNat (e.ver % 256).toNat]),.string (bs pp)] 9);refine hK.out _ _ (λ_=>⟨k6,trivial⟩) ?_;clear hK K;refine zc rfl (λK hK=>?_)
   go_wp2_with (go_at_call 186;refine(zch _ _ _ _ _ _ (Blk.new rfl) ?_).mono ?_)
   ·have:=zf8 e.msgs
    rw [hpp.out] at this;simp only [N1,U2,zZ];omega
   rintro r w6⟨rfl,hb6⟩
   generalize([UInt8.ofNat (e.kind % 256).toNat] ++le4 e.epoch++ [UInt8.ofNat (e.ver % 256).toNat] ++pp)=full at*
   have hfs:=zJ full;go_wp2;refine hK.out _ _ (λ_=>⟨k6.call hb6,trivial⟩) ?_;clear hK K
   (repeat (refine za (v:=?_) rfl rfl (λw' h=>?_) (λK k=>?_);rotate_left;obtain⟨f1,_⟩:=h;have e1:=f1.cell;go_simp;(try with_reducible rfl);go_simp;refine k _ ?_;clear k K))
   refine zf ?_;have hbw6:Below w.heap.size w w6:=ze (zg (ze (ze (ze hbw hb3) hb4) hb5) _) hb6;clear hb6 hb5 hb4 hb3 k2 k3 k4 k5 k6
   by_cases hlen:4000<full.length
   ·rw [if_pos hlen] at hR
    subst hR;have t4:decide (4000<((bs full).size:Int))=true:=by rw [hfs];simp;omega
    clear hlen hfs;go_wp2;go_ret2
    exact⟨rfl,hbw6⟩
   ·rw [if_neg hlen] at hR
    subst hR;have t4:decide (4000<((bs full).size:Int))=false:=by rw [hfs];simp;omega
    clear hlen hfs;go_wp2;go_ret2
    exact⟨rfl,hbw6⟩
  ·rw [if_pos hp0] at hR
   subst hR;have t2:((yD e.msgs).2 !=0)=true:=by simpa using hp0
   clear hp0
   go_enter func137,ntmps137
   go_wp2_with (first
    |(go_at_call 185;refine(hsh.out _ (hm.out.below (pbx))).mono ?_;rintro r w1 ⟨rfl,hb1⟩;rw [h1]
      have kb:Blk w1 w.heap.size #[.int .i64 e.kind,.int .u32 e.epoch,.int .i64 e.ver,mv] 178:=Blk.call (bkx) hb1
      have ke:=kb.cell)
    |(go_at_call 81;refine(hpk.out _ (hm.out.below (pbx)) hl).mono ?_;rintro r w2 ⟨rfl,hb2⟩))
   go_ret2
   exact⟨rfl,pbx⟩
theorem zhU(e:jB):Jz e=((vo e).2==0):=rfl
theorem zer(e:jB)(mv:Value)(w:World)(hm:qh w mv e.msgs)(hl:e.msgs.length<=1073741824):Calls prog 252 #[q8 e mv] w λr w'=>
 r=.returned (.bool (Jz e))/\Below w.heap.size w w':=by
 rw [zhU];have hen:=Yh e mv;unfold q8 at hen⊢;replace hen:=G hen;replace hm:=G hm
 go_enter func252,ntmps252
 go_wp2_with (go_at_call 137;refine(hen.out _ (hm.out.below (pbx)) hl).mono ?_;rintro r w1 ⟨rfl,hb1⟩)
 go_ret
 exact⟨rfl,pbx⟩
end
section
open Go Go.RowKit Go.ChangeShapes Go.WideShapes Go.ChangeAt Go.Deep
theorem zf9:prog.cellsOf 3=1:=by kernel_rfl
theorem zhV(b off j:Nat):(⟨b,off,none⟩:Addr).add j=⟨b,off+j,none⟩:=by unfold Addr.add;split<;>simp_all
section
variable {H:Type}{enc:TypeId×Value->H}{w:World}{base:Nat}{held:Bool}
end
end
section
open Go Go.RowKit Go.ChangeShapes Go.WideShapes Go.ChangeAt Go.Deep
def qr {α:Type}(w:World)(v:Value)(n:Nat)(cells:α->List Value)(l:List α):Prop:=
 (v=.slice none 0 0/\l=[])∨∃a cap,v=.slice (some a) l.length cap/\∀i p,l[i]?=some p->∀j,j<n->w.cell? (a.add (i*n+j))=(cells p)[j]?
theorem zes {α H:Type}{enc:TypeId×Value->H}{P:Program}{w:World}{base:Nat}{held:Bool}{t e:TypeId}{n:Nat}(ht:P.underlying t=some (.slice e))(hc:P.cellsOf e=n){cells:α->List Value}{Q:α->Prop}
 (ho:∀(fuel:Nat)(cs:List Value)(x:DataW H×List MemPlace),DataW.trod enc P w base (λ_=>true) held fuel e cs=some x->∃y,cs=cells y/\Q y)
 {fuel:Nat} {v:Value} {x:DataW H×List MemPlace} (h:DataW.trod enc P w base (λ_=>true) held fuel t [v]=some x):
 ∃l:List α,qr w v n cells l/\(∀y∈l,Q y)/\l.length<=9223372036854775807:=by
 subst hc
 rcases open_slice ht h with⟨h0, -⟩|⟨a,len,cap,m,n,D,Pl,hcs,hb,hl,hm,hmm,hx,hi⟩
 ·simp at h0;subst h0
  exact⟨[],.inl ⟨rfl,rfl⟩,by simp,by simp⟩
 ·simp at hcs;subst hcs
  have hmc:m=cap:=by rw [hmm];simp
  subst hmc
  have hex:∀k,k<=len->∃l:List α,l.length=k/\(∀i y,l[i]?=some y->∀j,j<P.cellsOf e->w.cell? (a.add (i*P.cellsOf e+j))=(cells y)[j]?)/\∀y∈l,Q y:=by
   intro k
   induction k with
   |zero=>intro _;exact⟨[],rfl,by simp,by simp⟩
   |succ k ih=>
    intro hk;obtain⟨l,h1,h2,h3⟩:=ih (by omega);obtain⟨cs',hc,ht'⟩:=hi k (by omega);obtain⟨y,rfl,hy⟩:=ho _ _ _ ht';obtain⟨_,hcl,hat⟩:=World.cells?_some hc;refine⟨l++ [y],by simp [h1],λi z hz j hj=>?_,?_⟩
    ·by_cases hik:i<k
     ·rw [U8 (by omega)] at hz
      exact h2 i z hz j hj
     ·rw [U6 (by omega)] at hz
      have:i=k:=by
       rcases Nat.lt_or_ge i (k+1)with h|h
       ·omega
       ·rw [List.getElem?_eq_none (by simp;omega)] at hz;cases hz
      subst this;simp [h1] at hz;subst hz
      rw [← Go.Deep.add_add];exact hat j hj
    ·intro z hz
     rcases List.mem_append.1 hz with h|h
     ·exact h3 z h
     ·simp at h;rw [h];exact hy
  obtain⟨l,h1,h2,h3⟩:=hex len (N0 _);subst h1;exact⟨l,.inr ⟨a,m,rfl,h2⟩,h3,by have:m<=maxLen:=hm;unfold maxLen at this;omega⟩
theorem qr.shape {α:Type}{w:World}{v:Value}{n:Nat}{cells:α->List Value}{l:List α}(h:qr w v n cells l)(hn:0<n)(h0:∀y,∃u,(cells y)[0]?=some u):
 ∃a cap,v=.slice a l.length cap/\∀i p,l[i]?=some p->∃b off,a=some ⟨b,off,none⟩/\∀j,j<n->w.cell? ⟨b,off+(i*n+j),none⟩=(cells p)[j]?:=by
 rcases h with⟨rfl,rfl⟩|⟨⟨b,off,spot⟩,cap,rfl,hc⟩
 ·exact⟨none,0,rfl,λi p hp=>by simp at hp⟩
 ·refine⟨_,cap,rfl,λi p hp=>?_⟩
  obtain⟨p0,hp0⟩:∃p0,l[0]?=some p0:=⟨_,N3 (by have:=(N6.1 hp).1;omega)⟩;have h1:=hc 0 p0 hp0 0 hn;obtain⟨u,hu⟩:=h0 p0;rw [hu] at h1
  have hspot:spot=none:=by
   have:=World.cell?_spot (w:=w) (v:=u) (a:=(⟨b,off,spot⟩:Addr).add (0*n+0)) h1
   simpa [Addr.add] using this
  subst hspot;exact⟨b,off,rfl,λj hj=>by rw [← zhV];exact hc i p hp j hj⟩
end
open Go
theorem Yi {V:Type}(k:MId):∀(l:List (MId×V)),(del k l).length<=l.length
 | []=>N0 _
 |(k',v')::l=>by
  have ih:=Yi k l;unfold del
  split
  ·simp
  ·simp;exact ih
theorem QF {V:Type}{k:MId}{v:V} :∀ {l:List (MId×V)},zK k l=some v->(del k l).length+1=l.length
 | [],h=>by cases h
 |(k',v')::l,h=>by
  by_cases hk:k=k'
  ·simp [del,hk]
  ·have h':zK k l=some v:=by simpa [zK,hk] using h
   have ih:=QF h';simp [del,hk]
   exact ih
theorem YJ:∀(n m:Nat)(ws:List (MId×zB)) (x:zB),zb3 ws->(del x.1 ws).length<=n->(del x.1 ws).length<=m->zW n ws x=zW m ws x
 |0,0,ws,x,_,_,_=>rfl
 |0,m+1,ws,x,hw,h0,hm=>by
  have hn:del x.1 ws=[]:=N9 (by omega);simp [zW,hn,zK]
 |n+1,0,ws,x,hw,h0,hm=>by
  have hn:del x.1 ws=[]:=N9 (by omega);simp [zW,hn,zK]
 |n+1,m+1,ws,x,hw,h0,hm=>by
  unfold zW
  cases hl:zK (x.1.1,(x.1.2+1)% 4294967296) (del x.1 ws)with
  |none=>rfl
  |some y=>
   have hy:y.1=(x.1.1,(x.1.2+1)% 4294967296):=((hw.del x.1) _ (xy hl)).1;have hlen:=QF hl;rw [← hy] at hlen;have:=YJ n m (del x.1 ws) y (hw.del x.1) (by omega) (by omega);simp only [this]
def X0(s:List (MId×zB)×Option zB):List zB:=match s.2 with|none=>[] |some x=>(zW s.1.length s.1 x).2
def zaF(s:List (MId×zB)×Option zB):List (MId×zB):=match s.2 with|none=>s.1|some x=>(zW s.1.length s.1 x).1
def QG(ws:List (MId×zB))(x:zB):List (MId×zB)×Option zB:=(del x.1 ws,zK (x.1.1,(x.1.2+1)% 4294967296) (del x.1 ws))
theorem zhW {ws:List (MId×zB)}{x:zB}(hw:zb3 ws):X0 (ws,some x)=x::X0 (QG ws x)/\zaF (ws,some x)=zaF (QG ws x):=by
 have hle:=Yi x.1 ws
 show(zW ws.length ws x).2=_/\(zW ws.length ws x).1=_
 unfold QG
 cases hl:zK (x.1.1,(x.1.2+1)% 4294967296) (del x.1 ws)with
 |none=>
  cases hn:ws.length with
  |zero=>exact⟨rfl,rfl⟩
  |succ n=>simp [zW,hl,X0,zaF]
 |some y=>
  have hy:y.1=(x.1.1,(x.1.2+1)% 4294967296):=((hw.del x.1) _ (xy hl)).1;have hlen:=QF hl;rw [← hy] at hlen
  cases hn:ws.length with
  |zero=>omega
  |succ n=>
   have:=YJ n (del x.1 ws).length (del x.1 ws) y (hw.del x.1) (by omega) (by omega);simp [zW,hl,X0,zaF,this]
theorem zet {ws:List (MId×zB)}{x y:zB}(hw:zb3 ws)(h:(QG ws x).2=some y):y.1.1=x.1.1/\zF y=true:=by
 have h1:=(hw.del x.1) _ (xy h);exact⟨by rw [h1.1],h1.2⟩
theorem Yj:∀(n:Nat)(ws:List (MId×zB)) (x:zB),zb3 ws->zF x=true->zb3 (zW n ws x).1/\∀y∈(zW n ws x).2,zF y=true
 |0,ws,x,hw,hx=>⟨hw.del _,by simp [zW,hx]⟩
 |n+1,ws,x,hw,hx=>by
  unfold zW
  cases hl:zK (x.1.1,(x.1.2+1)% 4294967296) (del x.1 ws)with
  |none=>exact⟨hw.del _,by simp [hx]⟩
  |some y=>
   have hy:=((hw.del x.1) _ (xy hl)).2;have ih:=Yj n (del x.1 ws) y (hw.del _) hy;exact⟨ih.1,by simpa [hx] using ih.2⟩
theorem X2:∀(l:List zB)(tk:List Nat),(∀n∈tk,n<=4294967294)->(∀y∈l,zF y=true)->∀n∈x8 tk l,n<=4294967294
 | [],tk,h,_=>h
 |x::l,tk,h,hl=>by
  show∀n∈x8 (tk.set x.1.1.toNat x.1.2) l,n<=4294967294
  refine X2 l _ (λn hn=>?_) (λy hy=>hl y (U7 _ hy))
  rcases List.mem_or_eq_of_mem_set hn with h1|h1
  ·exact h n h1
  ·have:=hl x (List.mem_cons_self ..)
   simp [zF] at this
   omega
theorem xj(tk:List Nat)(l:List zB):(x8 tk l).length=tk.length:=by
 unfold x8
 induction l generalizing tk with
 |nil=>rfl
 |cons x l ih=>rw [List.foldl_cons,ih];simp
theorem zeu(tk:List Nat)(l:List zB)(x:zB):x8 tk (l++ [x])=(x8 tk l).set x.1.1.toNat x.1.2:=by
 simp [x8,List.foldl_append]
theorem Z5:∀(n:Nat)(ws:List (MId×zB)) (x:zB),(zW n ws x).2.length<=n+1
 |0,ws,x=>by simp [zW]
 |n+1,ws,x=>by
  unfold zW
  cases zK (x.1.1,(x.1.2+1)% 4294967296) (del x.1 ws)with
  |none=>simp
  |some y=>have:=Z5 n (del x.1 ws) y;simp;omega
theorem vQ.row {b:vl}(h:vQ b){m:zB}(hm:zF m=true)(n:Nat):vQ {tk:=x8 b.tk (zW n b.ws m).2,log:=b.log++(zW n b.ws m).2,ws:=(zW n b.ws m).1} :=
 ⟨by rw [xj];exact h.sixteen,X2 _ _ h.most (Yj n b.ws m h.keys hm).2,(Yj n b.ws m h.keys hm).1⟩
