/- PARTS OF THE PROOF. -/
import Derived.Deep.Slices
import Derived.Deep.Fields
import Derived.ChangeSame
import Derived.Lib.SmallJoins
import Derived.Test.YtofppfoioodblaaGreatDoorTT01
import Derived.Test.YtofppfoioodblaaGreatDoorTT02
import Derived.Test.YtofppfoioodblaaGreatDoorTT05
set_option maxRecDepth 8000
set_option maxHeartbeats 4000000
open Go.Proofs.Tryz
namespace Go.Proofs.YtofppfoioodblaaGreatDoor
section
open Go Go.RowKit Go.Shelf Go.Extern.Stop Go.Stop Go.Extern Go.Lib
attribute [local go_sem] Oper.semAt_some zv zm
def qV(e:jy)(mv:Value):Value:=.agg #[.int .i64 e.kind,.int .u32 e.epoch,.int .i64 e.ver,mv]
abbrev x8(w:World)(mv:Value)(l:List zy):Prop:=Src w mv 3 l.length (l.flatMap zh)
theorem Src.shape {w:World}{v:Value}{size n:Nat}{xs:List Value}(h:Src w v size n xs):∃a c,v=.slice a n c:=by
 rcases h.2 with⟨rfl,rfl⟩|⟨b,off,cap,rfl, -⟩
 ·exact⟨_,_,rfl⟩
 ·exact⟨_,_,rfl⟩
theorem zez(e:jy)(mv:Value)(w:World)(hm:x8 w mv e.msgs):Calls prog 236 #[qV e mv] w λr w'=>r=.returned (.bool (xM e))/\Below w.heap.size w w':=by
 obtain⟨kind,epoch,ver,msgs⟩:=e;obtain⟨a,c,rfl⟩:=hm.shape;clear hm;obtain⟨R,hR⟩:∃R,xM ⟨kind,epoch,ver,msgs⟩=R:=⟨_,rfl⟩;rw [hR];unfold xM at hR;unfold qV;simp only at hR⊢
 by_cases h1:kind=1
 ·rw [if_pos h1] at hR
  subst h1;subst hR;have t1:(ver==0)=decide (ver=0):=rfl
  go_enter func236,ntmps236
  go_wp2;go_ret
  exact⟨by rw [← t1];rfl,pbx⟩
 ·have t1:(kind==1)=false:=by simpa using h1
  rw [if_neg h1] at hR
  by_cases h2:kind=2
  ·rw [if_pos h2] at hR
   subst h2
   by_cases hl:msgs.length=0
   ·have t2:((msgs.length:Int)==0)=true:=by rw [hl];rfl
    by_cases hv0:0<=ver
    ·have t3:decide (0<=ver)=true:=by simpa using hv0
     by_cases hv1:ver<=255
     ·have t4:decide (ver<=255)=true:=by simpa using hv1
      have hr:R=true:=by rw [← hR];simp [hl,hv0,hv1]
      subst hr;clear hR hl hv0 hv1 h1 t1
      go_enter func236,ntmps236
      go_wp2;go_ret
      exact⟨rfl,pbx⟩
     ·have t4:decide (ver<=255)=false:=by simpa using hv1
      have hr:R=false:=by rw [← hR];simp [hv1]
      subst hr;clear hR hl hv0 hv1 h1 t1
      go_enter func236,ntmps236
      go_wp2;go_ret
      exact⟨rfl,pbx⟩
    ·have t3:decide (0<=ver)=false:=by simpa using hv0
     have hr:R=false:=by rw [← hR];simp [hv0]
     subst hr;clear hR hl hv0 h1 t1
     go_enter func236,ntmps236
     go_wp2;go_ret
     exact⟨rfl,pbx⟩
   ·have t2:((msgs.length:Int)==0)=false:=by simp;intro h;exact hl (by simp [h])
    have hr:R=false:=by rw [← hR];simp [hl]
    subst hr;clear hR hl h1 t1
    go_enter func236,ntmps236
    go_wp2;go_ret
    exact⟨rfl,pbx⟩
  ·have t2:(kind==2)=false:=by simpa using h2
   rw [if_neg h2] at hR
   by_cases h3:kind=3
   ·rw [if_pos h3] at hR
    subst h3
    by_cases hl:msgs.length=0
    ·have t3:((msgs.length:Int)==0)=true:=by rw [hl];rfl
     have hr:R=(ver==0):=by rw [← hR];simp [hl];rfl
     subst hr;clear hR hl h1 h2 t1 t2
     go_enter func236,ntmps236
     go_wp2;go_ret
     exact⟨rfl,pbx⟩
    ·have t3:((msgs.length:Int)==0)=false:=by simp;intro h;exact hl (by simp [h])
     have hr:R=false:=by rw [← hR];simp [hl]
     subst hr;clear hR hl h1 h2 t1 t2
     go_enter func236,ntmps236
     go_wp2;go_ret
     exact⟨rfl,pbx⟩
   ·have t3:(kind==3)=false:=by simpa using h3
    rw [if_neg h3] at hR;subst hR;clear h1 h2 h3
    go_enter func236,ntmps236
    go_wp2;go_ret
    exact⟨rfl,pbx⟩
theorem zaP(n:Int)(w:World):Calls prog 238 #[.int .i64 n] w λr w'=>r=.returned (.string (bs [UInt8.ofNat (n % 256).toNat]))/\Below w.heap.size w w':=by
 have hcv:=run_convert_bytes_arg (P:=prog) (w.alloc (.cells #[.int .u8 (n % 256)] 5)) 49 5 Tryz.underlying49 Tryz.underlying5 w.heap.size 0 1 1 [n % 256] rfl (λi hi=>by obtain rfl:i=0:=(by omega);simp) 9 Tryz.underlying9
 have hs:strOfNums [n % 256]=bs [UInt8.ofNat (n % 256).toNat]:=by
  unfold strOfNums bs;simp
 rw [hs] at hcv;clear hs
 go_enter func238,ntmps238
 go_wp2;go_ret
 exact⟨rfl,pbx⟩
theorem zkI(a b c d:List UInt8):Lib.join [a,b,c,d] []=a++b++c++d:=by simp [Lib.join,List.intercalate]
theorem zcq(bk:Nat)(x y z u:List UInt8)(w:World)(hk:Blk w bk #[.string (bs x),.string (bs y),.string (bs z),.string (bs u)] 9)(hl:(x++y++z++u).length<=140737488355328):
 Calls prog 237 #[.slice (some ⟨bk,0,none⟩) 4 4] w λe w'=>e=.returned (.string (bs (x++y++z++u)))/\Below w.heap.size w w':=by
 have hj:=Tryz.strings_Join bk 0 4 [bs x,bs y,bs z,bs u] ⟨#[]⟩ w (λj t hz=>by
  have hc:=hk.cell j;rw [Nat.zero_add,hc];obtain rfl|rfl|rfl|rfl|h:j=0∨j=1∨j=2∨j=3∨4<=j:=by omega
  ·simp at hz;subst hz;rfl
  ·simp at hz;subst hz;rfl
  ·simp at hz;subst hz;rfl
  ·simp at hz;subst hz;rfl
  ·rw [List.getElem?_eq_none (by simpa using h)] at hz;cases hz) hk.lt (by simp) (by simp) (by
   simp only [List.map_cons,List.map_nil,qw]
   rw [zkI];omega)
 simp only [List.map_cons,List.map_nil,qw] at hj;rw [zkI] at hj;replace hj:=hid hj;clear hk hl
 go_enter func237,ntmps237
 go_wp2_with (go_at_call 138;refine hj.out.mono ?_;rintro e w' ⟨rfl,hb⟩)
 go_ret
 exact⟨by simp [bs],hb⟩
theorem zgo(l:List zy):(ye l).1.length<=65000:=by
 unfold ye
 split
 ·simp
 ·split
  ·rename_i h1 h2
   have:=Zc l (List.all_eq_true.1 h2);simp only [N1,U2];omega
  ·simp
theorem Ye(e:jy)(mv:Value)(w:World)(hm:x8 w mv e.msgs)(hl:e.msgs.length<=1073741824):Calls prog 185 #[qV e mv] w λr w'=>
 r=.returned (.tuple #[.string (bs (jv e).1),.int .i64 (jv e).2])/\Below w.heap.size w w':=by
 obtain⟨R,hR⟩:∃R,jv e=R:=⟨_,rfl⟩;rw [hR];unfold jv at hR;have hsh:=zez e mv;have hpk:=zdH mv e.msgs;unfold qV at hsh⊢;replace hsh:=hid hsh;replace hpk:=hid hpk;replace hm:=hid hm
 cases h1:xM e
 ·rw [if_pos h1] at hR
  subst hR
  go_enter func185,ntmps185
  go_wp2_with (go_at_call 236;refine(hsh.out _ (hm.out.below (pbx))).mono ?_;rintro r w1 ⟨rfl,hb1⟩;rw [h1])
  go_ret2
  exact⟨rfl,pbx⟩
 ·rw [if_neg (by simp [h1])] at hR
  by_cases hp0:(ye e.msgs).2=0
  ·rw [if_neg (by simpa using hp0)] at hR
   have t2:((ye e.msgs).2 !=0)=false:=by simpa using hp0
   clear hp0
   go_enter func185,ntmps185
   go_wp2_with (first
    |(go_at_call 236;refine(hsh.out _ (hm.out.below (pbx))).mono ?_;rintro r w1 ⟨rfl,hb1⟩;rw [h1]
      have kb:Blk w1 w.heap.size #[.int .i64 e.kind,.int .u32 e.epoch,.int .i64 e.ver,mv] 241:=Blk.call (bkx) hb1
      have ke:=kb.cell)
    |(go_at_call 92;refine(hpk.out _ (hm.out.below (pbx)) hl).mono ?_;rintro r w2 ⟨rfl,hb2⟩))
   have k2:=(kb.call hb2).drew;have hbw:Below w.heap.size w w2.drew:=pbx;clear ke t2 kb
   generalize hpp:(ye e.msgs).1=pp at*
   replace hpp:=hid hpp;refine zd [O 0,O 1,O 3,O 4,O 6,O 7,O 9,E 2,E 5,E 8,E 10,E 11,O 12] none (λw'=>Blk w' w.heap.size #[.int .i64 e.kind,.int .u32 e.epoch,.int .i64 e.ver,mv] 241/\True) (by kernel_rfl) (by kernel_rfl) ⟨k2,trivial⟩ ?_
   (repeat (refine za (v:=?_) rfl rfl (λw' h=>?_) (λK k=>?_);rotate_left;obtain⟨f1,_⟩:=h;have e1:=f1.cell;go_simp;(try with_reducible rfl);go_simp;refine k _ ?_;clear k K))
   refine zc rfl (λK hK=>?_)
   go_wp2_with (go_at_call 238;refine(zaP _ _).mono ?_;rintro r w3 ⟨rfl,hb3⟩)
   have k3:=k2.call hb3;refine hK.out _ _ (λ_=>⟨k3,trivial⟩) ?_;clear hK K;refine zc rfl (λK hK=>?_)
   go_wp2_with (go_at_call 134;refine(yI _ _).mono ?_;rintro r w4 ⟨rfl,hb4⟩)
   have k4:=k3.call hb4;refine hK.out _ _ (λ_=>⟨k4,trivial⟩) ?_;clear hK K;refine zc rfl (λK hK=>?_)
   go_wp2_with (go_at_call 238;refine(zaP _ _).mono ?_;rintro r w5 ⟨rfl,hb5⟩)
   have k5:=k4.call hb5;refine hK.out _ _ (λ_=>⟨k5,trivial⟩) ?_;clear hK K;refine zc rfl (λK hK=>?_);go_wp2;have k6:=k5.alloc (.cells #[.string (bs [UInt8.ofNat (e.kind % 256).toNat]),.string (bs (le4 e.epoch)),.string (bs [UInt8.ofNat (e.ver % 256).toNat]),.string (bs pp)] 9);refine hK.out _ _ (λ_=>⟨k6,trivial⟩) ?_;clear hK K;refine zc rfl (λK hK=>?_)
   go_wp2_with (go_at_call 237;refine(zcq _ _ _ _ _ _ (Blk.new rfl) ?_).mono ?_)
   ·have:=zgo e.msgs
    rw [hpp.out] at this;simp only [N1,U2,zY];omega
   rintro r w6⟨rfl,hb6⟩
   generalize([UInt8.ofNat (e.kind % 256).toNat] ++le4 e.epoch++ [UInt8.ofNat (e.ver % 256).toNat] ++pp)=full at*
   have hfs:=zJ full;go_wp2;refine hK.out _ _ (λ_=>⟨k6.call hb6,trivial⟩) ?_;clear hK K
   (repeat (refine za (v:=?_) rfl rfl (λw' h=>?_) (λK k=>?_);rotate_left;obtain⟨f1,_⟩:=h;have e1:=f1.cell;go_simp;(try with_reducible rfl);go_simp;refine k _ ?_;clear k K))
   refine ze ?_;have hbw6:Below w.heap.size w w6:=zg (zi (zg (zg (zg hbw hb3) hb4) hb5) _) hb6;clear hb6 hb5 hb4 hb3 k2 k3 k4 k5 k6
   by_cases hlen:4000<full.length
   ·rw [if_pos hlen] at hR
    subst hR;have t4:decide (4000<((bs full).size:Int))=true:=by rw [hfs];simp;omega
    clear hlen hfs;go_wp2;go_ret2
    exact⟨rfl,hbw6⟩
   ·rw [if_neg hlen] at hR
    subst hR;have t4:decide (4000<((bs full).size:Int))=false:=by rw [hfs];simp;omega
    clear hlen hfs;go_wp2;go_ret2
    exact⟨rfl,hbw6⟩
  ·rw [if_pos hp0] at hR
   subst hR;have t2:((ye e.msgs).2 !=0)=true:=by simpa using hp0
   clear hp0
   go_enter func185,ntmps185
   go_wp2_with (first
    |(go_at_call 236;refine(hsh.out _ (hm.out.below (pbx))).mono ?_;rintro r w1 ⟨rfl,hb1⟩;rw [h1]
      have kb:Blk w1 w.heap.size #[.int .i64 e.kind,.int .u32 e.epoch,.int .i64 e.ver,mv] 241:=Blk.call (bkx) hb1
      have ke:=kb.cell)
    |(go_at_call 92;refine(hpk.out _ (hm.out.below (pbx)) hl).mono ?_;rintro r w2 ⟨rfl,hb2⟩))
   go_ret2
   exact⟨rfl,pbx⟩
theorem ziq(e:jy):ZL e=((jv e).2==0):=rfl
theorem zeA(e:jy)(mv:Value)(w:World)(hm:x8 w mv e.msgs)(hl:e.msgs.length<=1073741824):Calls prog 307 #[qV e mv] w λr w'=>
 r=.returned (.bool (ZL e))/\Below w.heap.size w w':=by
 rw [ziq];have hen:=Ye e mv;unfold qV at hen⊢;replace hen:=hid hen;replace hm:=hid hm
 go_enter func307,ntmps307
 go_wp2_with (go_at_call 185;refine(hen.out _ (hm.out.below (pbx)) hl).mono ?_;rintro r w1 ⟨rfl,hb1⟩)
 go_ret
 exact⟨rfl,pbx⟩
end
section
open Go Go.RowKit Go.ChangeShapes Go.WideShapes Go.ChangeAt Go.Deep
theorem zgp:prog.cellsOf 3=1:=by kernel_rfl
theorem zir(b off j:Nat):(⟨b,off,none⟩:Addr).add j=⟨b,off+j,none⟩:=by unfold Addr.add;split<;>simp_all
section
variable {H:Type}{enc:TypeId×Value->H}{w:World}{base:Nat}{held:Bool}
end
end
section
open Go Go.RowKit Go.ChangeShapes Go.WideShapes Go.ChangeAt Go.Deep
def Yf {α:Type}(w:World)(v:Value)(n:Nat)(cells:α->List Value)(l:List α):Prop:=
 (v=.slice none 0 0/\l=[])∨∃a cap,v=.slice (some a) l.length cap/\∀i p,l[i]?=some p->∀j,j<n->w.cell? (a.add (i*n+j))=(cells p)[j]?
theorem zeB {α H:Type}{enc:TypeId×Value->H}{P:Program}{w:World}{base:Nat}{held:Bool}{t e:TypeId}{n:Nat}(ht:P.underlying t=some (.slice e))(hc:P.cellsOf e=n){cells:α->List Value}{Q:α->Prop}
 (ho:∀(fuel:Nat)(cs:List Value)(x:DataW H×List MemPlace),DataW.trod enc P w base (λ_=>true) held fuel e cs=some x->∃y,cs=cells y/\Q y)
 {fuel:Nat} {v:Value} {x:DataW H×List MemPlace} (h:DataW.trod enc P w base (λ_=>true) held fuel t [v]=some x):
 ∃l:List α,Yf w v n cells l/\(∀y∈l,Q y)/\l.length<=9223372036854775807:=by
 subst hc
 rcases open_slice ht h with⟨h0, -⟩|⟨a,len,cap,m,n,D,Pl,hcs,hb,hl,hm,hmm,hx,hi⟩
 ·simp at h0;subst h0
  exact⟨[],.inl ⟨rfl,rfl⟩,by simp,by simp⟩
 ·simp at hcs;subst hcs
  have hmc:m=cap:=by rw [hmm];simp
  subst hmc
  have hex:∀k,k<=len->∃l:List α,l.length=k/\(∀i y,l[i]?=some y->∀j,j<P.cellsOf e->w.cell? (a.add (i*P.cellsOf e+j))=(cells y)[j]?)/\∀y∈l,Q y:=by
   intro k
   induction k with
   |zero=>intro _;exact⟨[],rfl,by simp,by simp⟩
   |succ k ih=>
    intro hk;obtain⟨l,h1,h2,h3⟩:=ih (by omega);obtain⟨cs',hc,ht'⟩:=hi k (by omega);obtain⟨y,rfl,hy⟩:=ho _ _ _ ht';obtain⟨_,hcl,hat⟩:=World.cells?_some hc;refine⟨l++ [y],by simp [h1],λi z hz j hj=>?_,?_⟩
    ·by_cases hik:i<k
     ·rw [U8 (by omega)] at hz
      exact h2 i z hz j hj
     ·rw [U6 (by omega)] at hz
      have:i=k:=by
       rcases Nat.lt_or_ge i (k+1)with h|h
       ·omega
       ·rw [List.getElem?_eq_none (by simp;omega)] at hz;cases hz
      subst this;simp [h1] at hz;subst hz
      rw [← Go.Deep.add_add];exact hat j hj
    ·intro z hz
     rcases List.mem_append.1 hz with h|h
     ·exact h3 z h
     ·simp at h;rw [h];exact hy
  obtain⟨l,h1,h2,h3⟩:=hex len (N0 _);subst h1;exact⟨l,.inr ⟨a,m,rfl,h2⟩,h3,by have:m<=maxLen:=hm;unfold maxLen at this;omega⟩
theorem Yf.shape {α:Type}{w:World}{v:Value}{n:Nat}{cells:α->List Value}{l:List α}(h:Yf w v n cells l)(hn:0<n)(h0:∀y,∃u,(cells y)[0]?=some u):
 ∃a cap,v=.slice a l.length cap/\∀i p,l[i]?=some p->∃b off,a=some ⟨b,off,none⟩/\∀j,j<n->w.cell? ⟨b,off+(i*n+j),none⟩=(cells p)[j]?:=by
 rcases h with⟨rfl,rfl⟩|⟨⟨b,off,spot⟩,cap,rfl,hc⟩
 ·exact⟨none,0,rfl,λi p hp=>by simp at hp⟩
 ·refine⟨_,cap,rfl,λi p hp=>?_⟩
  obtain⟨p0,hp0⟩:∃p0,l[0]?=some p0:=⟨_,N3 (by have:=(N6.1 hp).1;omega)⟩;have h1:=hc 0 p0 hp0 0 hn;obtain⟨u,hu⟩:=h0 p0;rw [hu] at h1
  have hspot:spot=none:=by
   have:=World.cell?_spot (w:=w) (v:=u) (a:=(⟨b,off,spot⟩:Addr).add (0*n+0)) h1
   simpa [Addr.add] using this
  subst hspot;exact⟨b,off,rfl,λj hj=>by rw [← zir];exact hc i p hp j hj⟩
section
variable {H:Type}{enc:TypeId×Value->H}{w:World}{base:Nat}{held:Bool}
theorem zgq(fuel:Nat)(cs:List Value)(x:DataW H×List MemPlace)(h:DataW.trod enc prog w base (λ_=>true) held fuel 3 cs=some x):∃k:Int,cs=[.int .i64 k] /\True:=by
 obtain⟨k,e, -, -⟩:=DataW.trod_int Tryz.underlying3 h;exact⟨k,e,trivial⟩
set_option maxRecDepth 100000 in
theorem zeC {b0:Nat}{v:Value}{d:DataW H}{p:List MemPlace}(hv:Value.okWide prog w .any b0 22 v)(h:DataW.Trod enc prog w base (λ_=>true) held 22 v d p):
 ∃l:List Int,Yf w v 1 (λx=>[.int .i64 x]) l/\l.length<=9223372036854775807:=by
 obtain⟨a,n,c,rfl⟩:=Go.WideShapes.okWide_slice Tryz.underlying22 hv;obtain⟨fuel,hf⟩:=h;obtain⟨l,h1, -,h2⟩:=zeB Tryz.underlying22 zgp zgq hf;exact⟨l,h1,h2⟩
end
end
open Go
theorem Yg {V:Type}(k:MId):∀(l:List (MId×V)),(del k l).length<=l.length
 | []=>N0 _
 |(k',v')::l=>by
  have ih:=Yg k l;unfold del
  split
  ·simp
  ·simp;exact ih
theorem QO {V:Type}{k:MId}{v:V} :∀ {l:List (MId×V)},zD k l=some v->(del k l).length+1=l.length
 | [],h=>by cases h
 |(k',v')::l,h=>by
  by_cases hk:k=k'
  ·simp [del,hk]
  ·have h':zD k l=some v:=by simpa [zD,hk] using h
   have ih:=QO h';simp [del,hk]
   exact ih
theorem YI:∀(n m:Nat)(ws:List (MId×zy)) (x:zy),zcd ws->(del x.1 ws).length<=n->(del x.1 ws).length<=m->zU n ws x=zU m ws x
 |0,0,ws,x,_,_,_=>rfl
 |0,m+1,ws,x,hw,h0,hm=>by
  have hn:del x.1 ws=[]:=N9 (by omega);simp [zU,hn,zD]
 |n+1,0,ws,x,hw,h0,hm=>by
  have hn:del x.1 ws=[]:=N9 (by omega);simp [zU,hn,zD]
 |n+1,m+1,ws,x,hw,h0,hm=>by
  unfold zU
  cases hl:zD (x.1.1,(x.1.2+1)% 4294967296) (del x.1 ws)with
  |none=>rfl
  |some y=>
   have hy:y.1=(x.1.1,(x.1.2+1)% 4294967296):=((hw.del x.1) _ (xz hl)).1;have hlen:=QO hl;rw [← hy] at hlen;have:=YI n m (del x.1 ws) y (hw.del x.1) (by omega) (by omega);simp only [this]
def X3(s:List (MId×zy)×Option zy):List zy:=match s.2 with|none=>[] |some x=>(zU s.1.length s.1 x).2
def zaQ(s:List (MId×zy)×Option zy):List (MId×zy):=match s.2 with|none=>s.1|some x=>(zU s.1.length s.1 x).1
def QP(ws:List (MId×zy))(x:zy):List (MId×zy)×Option zy:=(del x.1 ws,zD (x.1.1,(x.1.2+1)% 4294967296) (del x.1 ws))
theorem zis {ws:List (MId×zy)}{x:zy}(hw:zcd ws):X3 (ws,some x)=x::X3 (QP ws x)/\zaQ (ws,some x)=zaQ (QP ws x):=by
 have hle:=Yg x.1 ws
 show(zU ws.length ws x).2=_/\(zU ws.length ws x).1=_
 unfold QP
 cases hl:zD (x.1.1,(x.1.2+1)% 4294967296) (del x.1 ws)with
 |none=>
  cases hn:ws.length with
  |zero=>exact⟨rfl,rfl⟩
  |succ n=>simp [zU,hl,X3,zaQ]
 |some y=>
  have hy:y.1=(x.1.1,(x.1.2+1)% 4294967296):=((hw.del x.1) _ (xz hl)).1;have hlen:=QO hl;rw [← hy] at hlen
  cases hn:ws.length with
  |zero=>omega
  |succ n=>
   have:=YI n (del x.1 ws).length (del x.1 ws) y (hw.del x.1) (by omega) (by omega);simp [zU,hl,X3,zaQ,this]
theorem zeD {ws:List (MId×zy)}{x y:zy}(hw:zcd ws)(h:(QP ws x).2=some y):y.1.1=x.1.1/\zB y=true:=by
 have h1:=(hw.del x.1) _ (xz h);exact⟨by rw [h1.1],h1.2⟩
theorem Yh:∀(n:Nat)(ws:List (MId×zy)) (x:zy),zcd ws->zB x=true->zcd (zU n ws x).1/\∀y∈(zU n ws x).2,zB y=true
 |0,ws,x,hw,hx=>⟨hw.del _,by simp [zU,hx]⟩
 |n+1,ws,x,hw,hx=>by
  unfold zU
  cases hl:zD (x.1.1,(x.1.2+1)% 4294967296) (del x.1 ws)with
  |none=>exact⟨hw.del _,by simp [hx]⟩
  |some y=>
   have hy:=((hw.del x.1) _ (xz hl)).2;have ih:=Yh n (del x.1 ws) y (hw.del _) hy;exact⟨ih.1,by simpa [hx] using ih.2⟩
theorem X4:∀(l:List zy)(tk:List Nat),(∀n∈tk,n<=4294967294)->(∀y∈l,zB y=true)->∀n∈xK tk l,n<=4294967294
 | [],tk,h,_=>h
 |x::l,tk,h,hl=>by
  show∀n∈xK (tk.set x.1.1.toNat x.1.2) l,n<=4294967294
  refine X4 l _ (λn hn=>?_) (λy hy=>hl y (U7 _ hy))
  rcases List.mem_or_eq_of_mem_set hn with h1|h1
  ·exact h n h1
  ·have:=hl x (List.mem_cons_self ..)
   simp [zB] at this
   omega
theorem xj(tk:List Nat)(l:List zy):(xK tk l).length=tk.length:=by
 unfold xK
 induction l generalizing tk with
 |nil=>rfl
 |cons x l ih=>rw [List.foldl_cons,ih];simp
theorem zeE(tk:List Nat)(l:List zy)(x:zy):xK tk (l++ [x])=(xK tk l).set x.1.1.toNat x.1.2:=by
 simp [xK,List.foldl_append]
theorem ZW:∀(n:Nat)(ws:List (MId×zy)) (x:zy),(zU n ws x).2.length<=n+1
 |0,ws,x=>by simp [zU]
 |n+1,ws,x=>by
  unfold zU
  cases zD (x.1.1,(x.1.2+1)% 4294967296) (del x.1 ws)with
  |none=>simp
  |some y=>have:=ZW n (del x.1 ws) y;simp;omega
theorem vO.row {b:vw}(h:vO b){m:zy}(hm:zB m=true)(n:Nat):vO {tk:=xK b.tk (zU n b.ws m).2,log:=b.log++(zU n b.ws m).2,ws:=(zU n b.ws m).1} :=
 ⟨by rw [xj];exact h.sixteen,X4 _ _ h.most (Yh n b.ws m h.keys hm).2,(Yh n b.ws m h.keys hm).1⟩
