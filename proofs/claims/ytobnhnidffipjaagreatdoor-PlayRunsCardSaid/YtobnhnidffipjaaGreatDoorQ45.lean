/- PARTS OF THE PROOF. -/
import Derived.Deep.Slices
import Derived.Deep.Fields
import Derived.ChangeSame
import Derived.Lib.SmallJoins
import Derived.Test.YtobnhnidffipjaaGreatDoorQ01
import Derived.Test.YtobnhnidffipjaaGreatDoorQ04
import Derived.Test.YtobnhnidffipjaaGreatDoorQ06
import Derived.Test.YtobnhnidffipjaaGreatDoorQ13
import Derived.Test.YtobnhnidffipjaaGreatDoorQ31
import Derived.Test.YtobnhnidffipjaaGreatDoorQ33
import Derived.Test.YtobnhnidffipjaaGreatDoorQ34
import Derived.Test.YtobnhnidffipjaaGreatDoorQ44
set_option maxRecDepth 8000
set_option maxHeartbeats 4000000
open Go.Proofs.Tryz
namespace Go.Proofs.YtobnhnidffipjaaGreatDoor
section
open Go Go.RowKit Go.Shelf Go.Extern.Stop Go.Stop Go.Extern
attribute [local go_sem] Oper.semAt_some zw zn
def opV(o:OpD):Value:=.agg #[.int .i64 o.kind,.int .i64 o.node,.int .i64 o.a,.int .i64 o.b,.int .u32 (o.mask:Nat),.string (bs o.s)]
structure zhH(o:OpD):Prop where
 len:o.s.length<=300
 mask:o.mask<4294967296
 b:o.b<9223372036854775808
theorem zr.noteLen {v:Int}{k L:Nat}{S:zj}(h:zr v k L S):∀x∈S.notes,x.2.2.length<=1073741824:=λx hx=>by
 have hn:=h.notes x hx
 rcases hn.form with h1|h1
 ·omega
 ·have:=(h1.dec h.n0.2 hn.dst).1;omega
theorem zr.eraLen {v:Int}{k L:Nat}{S:zj}(h:zr v k L S){i:Nat}(hi:i<S.nodes.length):(zt S i).loc.fold.eras.length<=536870912:=by
 have h1:=(h.node hi).2.ok.bounds;have:=h1.2.2.2.fold.eras;omega
variable {B:Nat}{K:WK}{S:zj}{v:Int}{k0 L:Nat}{t:List Nat}{ow:Own}{a:Addr}{w:World}
theorem zkX(hG:zr v k0 L S)(o:OpD)(h:zy B K S t ow w):Calls prog 55 #[opV o,.pointer (some ⟨K.bx,0,none⟩)] w (vi B K (J1 S o.a).1 t ow w (.int .i64 (J1 S o.a).2)):=by
 have hCC:=λow W hW=>zhC B K S t ow o.a hG.notesN W hW
 obtain⟨knd,nod,A,bit,msk,str⟩:=o;unfold opV
 (try simp only at hCC)
 have hb1:Below w.heap.size w (w.alloc (.cells #[.int .i64 knd,.int .i64 nod,.int .i64 A,.int .i64 bit,.int .u32 (msk:Nat),.string (bs str)] 39)):=zg (N2 _ _) _;have hW1:=(zy.loc B K S t).cut h hb1;have kO:Blk (w.alloc (.cells #[.int .i64 knd,.int .i64 nod,.int .i64 A,.int .i64 bit,.int .u32 (msk:Nat),.string (bs str)] 39)) w.heap.size #[.int .i64 knd,.int .i64 nod,.int .i64 A,.int .i64 bit,.int .u32 (msk:Nat),.string (bs str)] 39:=Blk.new rfl;obtain⟨tv,lp,hI1⟩:=hW1;have e0:=hI1.does.2.2.2.cell;have e1:=kO.cell;have hc:=hCC _ _ ⟨tv,lp,hI1⟩;replace hc:=G hc;replace hI1:=G hI1;clear hCC h
 go_enter func55,ntmps55
 go_wp2_with fail
 refine hc.out.mono ?_;rintro e w2⟨rfl,ow2,hs2,hW2⟩;go_wp2;go_ret
 exact⟨rfl,ow2,zq.wrap hb1 hs2,hW2⟩
theorem zkY(hG:zr v k0 L S)(hL:L<=3000000000)(o:OpD)(h:zy B K S t ow w):Calls prog 57 #[opV o,.pointer (some ⟨K.bx,0,none⟩)] w (vi B K (Yw S o.a).1 t ow w (.int .i64 (Yw S o.a).2)):=by
 have hCC:=λow W hW=>zhE B K S (hG.room hL) t ow o.a W hW
 obtain⟨knd,nod,A,bit,msk,str⟩:=o;unfold opV
 (try simp only at hCC)
 have hb1:Below w.heap.size w (w.alloc (.cells #[.int .i64 knd,.int .i64 nod,.int .i64 A,.int .i64 bit,.int .u32 (msk:Nat),.string (bs str)] 39)):=zg (N2 _ _) _;have hW1:=(zy.loc B K S t).cut h hb1;have kO:Blk (w.alloc (.cells #[.int .i64 knd,.int .i64 nod,.int .i64 A,.int .i64 bit,.int .u32 (msk:Nat),.string (bs str)] 39)) w.heap.size #[.int .i64 knd,.int .i64 nod,.int .i64 A,.int .i64 bit,.int .u32 (msk:Nat),.string (bs str)] 39:=Blk.new rfl;obtain⟨tv,lp,hI1⟩:=hW1;have e0:=hI1.does.2.2.2.cell;have e1:=kO.cell;have hc:=hCC _ _ ⟨tv,lp,hI1⟩;replace hc:=G hc;replace hI1:=G hI1;clear hCC h
 go_enter func57,ntmps57
 go_wp2_with fail
 refine hc.out.mono ?_;rintro e w2⟨rfl,ow2,hs2,hW2⟩;go_wp2;go_ret
 exact⟨rfl,ow2,zq.wrap hb1 hs2,hW2⟩
theorem zkZ(hG:zr v k0 L S)(hL:L<=3000000000)(o:OpD)(ho:zhH o)(h:zy B K S t ow w):Calls prog 59 #[opV o,.pointer (some ⟨K.bx,0,none⟩)] w (vi B K (Jd S o.a o.b o.mask).1 t ow w (.int .i64 (Jd S o.a o.b o.mask).2)):=by
 have hCC:=λow W hW=>zhF B K S (hG.room hL) hG.noteLen t ow o.a o.b ho.b o.mask ho.mask W hW
 clear ho;obtain⟨knd,nod,A,bit,msk,str⟩:=o;unfold opV
 (try simp only at hCC)
 have hb1:Below w.heap.size w (w.alloc (.cells #[.int .i64 knd,.int .i64 nod,.int .i64 A,.int .i64 bit,.int .u32 (msk:Nat),.string (bs str)] 39)):=zg (N2 _ _) _;have hW1:=(zy.loc B K S t).cut h hb1;have kO:Blk (w.alloc (.cells #[.int .i64 knd,.int .i64 nod,.int .i64 A,.int .i64 bit,.int .u32 (msk:Nat),.string (bs str)] 39)) w.heap.size #[.int .i64 knd,.int .i64 nod,.int .i64 A,.int .i64 bit,.int .u32 (msk:Nat),.string (bs str)] 39:=Blk.new rfl;obtain⟨tv,lp,hI1⟩:=hW1;have e0:=hI1.does.2.2.2.cell;have e1:=kO.cell;have hc:=hCC _ _ ⟨tv,lp,hI1⟩;replace hc:=G hc;replace hI1:=G hI1;clear hCC h
 go_enter func59,ntmps59
 go_wp2_with fail
 refine hc.out.mono ?_;rintro e w2⟨rfl,ow2,hs2,hW2⟩;go_wp2;go_ret
 exact⟨rfl,ow2,zq.wrap hb1 hs2,hW2⟩
theorem zk0(hG:zr v k0 L S)(hL:L<=3000000000)(ht:t≠ [])(o:OpD)(h:zy B K S t ow w)(he:jA w a)(hge:ow 2=[]):Calls prog 53 #[opV o,.pointer (some ⟨K.bx,0,none⟩)] w (vi B K (Jc S o.a).1 t ow w (.int .i64 (Jc S o.a).2)):=by
 have hCC:=λow W hW h1 h2=>zhD B K S hG hL t ht ow a o.a W hW h1 h2
 have hel:=he.lt;obtain⟨knd,nod,A,bit,msk,str⟩:=o;unfold opV
 (try simp only at hCC)
 have hb1:Below w.heap.size w (w.alloc (.cells #[.int .i64 knd,.int .i64 nod,.int .i64 A,.int .i64 bit,.int .u32 (msk:Nat),.string (bs str)] 39)):=zg (N2 _ _) _;have hW1:=(zy.loc B K S t).cut h hb1;have kO:Blk (w.alloc (.cells #[.int .i64 knd,.int .i64 nod,.int .i64 A,.int .i64 bit,.int .u32 (msk:Nat),.string (bs str)] 39)) w.heap.size #[.int .i64 knd,.int .i64 nod,.int .i64 A,.int .i64 bit,.int .u32 (msk:Nat),.string (bs str)] 39:=Blk.new rfl;obtain⟨tv,lp,hI1⟩:=hW1;have e0:=hI1.does.2.2.2.cell;have e1:=kO.cell;have hc:=hCC _ _ ⟨tv,lp,hI1⟩ (he.below hb1 hel) (by rw [Own.cut_old hel];exact hge);replace hc:=G hc;replace hI1:=G hI1;clear hCC h
 go_enter func53,ntmps53
 go_wp2_with fail
 refine hc.out.mono ?_;rintro e w2⟨rfl,ow2,hs2,hW2⟩;go_wp2;go_ret
 exact⟨rfl,ow2,zq.wrap hb1 hs2,hW2⟩
theorem zk1(hG:zr v k0 L S)(hL:L<=3000000000)(ht:t≠ [])(o:OpD)(i:Nat)(hn:o.node=i)(hi:i<S.nodes.length)(h:zy B K S t ow w):Calls prog 51 #[opV o,.pointer (some ⟨K.bx,0,none⟩)] w (vi B K (yr S i).1 t ow w (.int .i64 (yr S i).2)):=by
 have hCC:=λow W hW=>zbW B K S hG hL t ht ow i hi (hG.eraLen hi) W hW
 obtain⟨knd,nod,A,bit,msk,str⟩:=o;unfold opV
 (try simp only at hCC)
 have hb1:Below w.heap.size w (w.alloc (.cells #[.int .i64 knd,.int .i64 nod,.int .i64 A,.int .i64 bit,.int .u32 (msk:Nat),.string (bs str)] 39)):=zg (N2 _ _) _;have hW1:=(zy.loc B K S t).cut h hb1;have kO:Blk (w.alloc (.cells #[.int .i64 knd,.int .i64 nod,.int .i64 A,.int .i64 bit,.int .u32 (msk:Nat),.string (bs str)] 39)) w.heap.size #[.int .i64 knd,.int .i64 nod,.int .i64 A,.int .i64 bit,.int .u32 (msk:Nat),.string (bs str)] 39:=Blk.new rfl;obtain⟨tv,lp,hI1⟩:=hW1;have e0:=hI1.does.2.2.2.cell;have e1:=kO.cell;have hc:=hCC _ _ ⟨tv,lp,hI1⟩;replace hc:=G hc;replace hI1:=G hI1;clear hCC h;subst hn
 go_enter func51,ntmps51
 go_wp2_with fail
 refine hc.out.mono ?_;rintro e w2⟨rfl,ow2,hs2,hW2⟩;go_wp2;go_ret
 exact⟨rfl,ow2,zq.wrap hb1 hs2,hW2⟩
end
section
open Go Go.RowKit Go.ChangeShapes Go.WideShapes Go.ChangeAt Go.Deep
section
variable {H:Type}{enc:TypeId×Value->H}{w:World}{base:Nat}{held:Bool}
set_option maxRecDepth 100000 in
theorem zf1 {b0:Nat}{v:Value}{d:DataW H}{p:List MemPlace}(hv:Value.okWide prog w .any b0 9 v)(h:DataW.Trod enc prog w base (λ_=>true) held 9 v d p):∃l:List UInt8,v=.string (bs l):=by
 obtain⟨s,rfl⟩:=okWide_string Tryz.underlying9 hv;exact⟨s.data.toList,by rw [zkM]⟩
end
end
open Go Go.RowKit Go.Shelf Go.Extern.Stop Go.Stop Go.Extern
attribute [local go_sem] Oper.semAt_some zw zn
theorem zdk(a b:Nat)(ha:a<65536)(hb:b<65536):bits .or .i64 (a:Int) (b:Int)=((a|||b:Nat):Int):=by
 have hx:a|||b<2 ^ 16:=Nat.or_lt_two_pow (by omega) (by omega)
 have h1:(BitVec.ofInt 64 (a:Int)).toNat=a:=by
  rw [BitVec.ofInt_natCast,BitVec.toNat_ofNat];exact Nat.mod_eq_of_lt (by omega)
 have h2:(BitVec.ofInt 64 (b:Int)).toNat=b:=by
  rw [BitVec.ofInt_natCast,BitVec.toNat_ofNat];exact Nat.mod_eq_of_lt (by omega)
 show IntKind.i64.wrap ((BitVec.ofInt 64 (a:Int)|||BitVec.ofInt 64 (b:Int)).toNat:Int)=_
 rw [BitVec.toNat_or,h1,h2,N8];omega
theorem zj3(a b:Nat)(ha:a<256)(hb:b<256):bits .or .i64 (a:Int) (b*256:Int)=((a+256*b:Nat):Int):=by
 have h4:=Nat.two_pow_add_eq_or_of_lt (i:=8) (b:=a) (by omega) b;have:=zdk a (b*256) (by omega) (by omega);rw [show(b*256:Nat)=2 ^ 8*b by omega,Nat.or_comm,← h4] at this;rw [show((b:Int)*256)=((2 ^ 8*b:Nat):Int)by omega,this];omega
def xj(l:List UInt8):Nat:=(l.getD 0 0).toNat+256*(l.getD 1 0).toNat
theorem zau(l:List UInt8)(hl:2<=l.length)(w:World):Calls prog 100 #[.string (bs l)] w λe w'=>e=.returned (.int .i64 (xj l:Nat))/\w'=w.drew:=by
 have hsz:=zC l
 have b0:∀h:0<(bs l).size,((bs l)[0]'h).toNat=(l.getD 0 0).toNat:=by
  intro h;rcases l with _|⟨a,_|⟨b,t⟩⟩<;>first|rfl|(simp at hl)
 have b1:∀h:1<(bs l).size,((bs l)[1]'h).toNat=(l.getD 1 0).toNat:=by
  intro h;rcases l with _|⟨a,_|⟨b,t⟩⟩<;>first|rfl|(simp at hl)
 have hw:xj l=(l.getD 0 0).toNat+256*(l.getD 1 0).toNat:=rfl;have ha:=(l.getD 0 0).toNat_lt;have hb:=(l.getD 1 0).toNat_lt
 generalize(l.getD 0 0).toNat=a at*
 generalize(l.getD 1 0).toNat=b at*
 generalize xj l=q at*
 generalize l.length=n at*
 have h3:¬((n:Int)<=0):=by omega
 have h4:¬((n:Int)<=1):=by omega
 have p0:0<n:=by omega
 have p1:1<n:=by omega
 have w1:IntKind.i64.wrap (a:Int)=(a:Int):=by rw [N8];omega
 have w2:IntKind.i64.wrap (b:Int)=(b:Int):=by rw [N8];omega
 have w3:IntKind.i64.wrap ((b:Int)*256)=(b:Int)*256:=by rw [N8];omega
 have hor:=zj3 a b (by omega) (by omega);rw [← hw] at hor;replace hw:=G hw
 go_enter func100,ntmps100
 go_wp2;refine zd [O 0,O 1,O 2,O 3,O 4,O 5,O 6,O 7,O 8] none (λw'=>True) (by kernel_rfl) (by kernel_rfl) trivial ?_
 (repeat (refine za (v:=?_) rfl rfl (λw' h=>?_) (λK k=>?_);rotate_left;obtain⟨f1,f2,f3,f4,f5,_⟩:=h;(try have e1:=f1.cell);(try have e2:=f2.cell);(try have e3:=f3.cell);(try have e4:=f4.cell);(try have e5:=f5.cell);go_simp;(try with_reducible rfl);go_simp;refine k _ ?_;clear k K))
 refine ze ?_;go_wp2;go_ret
 exact⟨rfl,rfl⟩
def Vb(l:List UInt8):Nat:=(l.getD 0 0).toNat % 16
def opP(l:List UInt8):OpD:=⟨(Vb l:Nat),((l.getD 1 0).toNat % 16:Nat),(xj (l.drop 2):Nat),if Vb l=6 then(xj (l.drop 4):Nat)else 0,if Vb l=6 then xj (l.drop 6)*65537 else 0,if Vb l=1 then l.drop 4 else []⟩
theorem zav(l:List UInt8):xj l<65536:=by
 have h0:=(l.getD 0 0).toNat_lt;have h1:=(l.getD 1 0).toNat_lt;unfold xj;omega
def zb0(l:List UInt8):Value:=.agg #[.int .i64 (opP l).kind,.int .i64 (opP l).node,.int .i64 (opP l).a,.int .i64 (opP l).b,.int .u32 ((opP l).mask:Nat),.string (bs (opP l).s)]
theorem ziW(l:List UInt8)(hl:l.length=8)(w:World):Calls prog 72 #[.string (bs l)] w λe w'=>e=.returned (zb0 l)/\Below w.heap.size w w':=by
 have hsz:=zC l;rw [hl] at hsz
 have b0:∀h:0<(bs l).size,((bs l)[0]'h).toNat=(l.getD 0 0).toNat:=by
  intro h;rcases l with _|⟨a,_|⟨b,t⟩⟩<;>first|rfl|(simp at hl)
 have b1:∀h:1<(bs l).size,((bs l)[1]'h).toNat=(l.getD 1 0).toNat:=by
  intro h;rcases l with _|⟨a,_|⟨b,t⟩⟩<;>first|rfl|(simp at hl)
 have x2:(bs l).extract 2 8=bs (l.drop 2):=by rw [← z8,hsz]
 have x4:(bs l).extract 4 8=bs (l.drop 4):=by rw [← z8,hsz]
 have x6:(bs l).extract 6 8=bs (l.drop 6):=by rw [← z8,hsz]
 have d4:(l.drop 4).length=4:=by rw [U3];omega
 have ha:=(l.getD 0 0).toNat_lt;have hb:=(l.getD 1 0).toNat_lt;have hk:Vb l=(l.getD 0 0).toNat % 16:=rfl;obtain⟨a,hA⟩:∃a,(l.getD 0 0).toNat=a:=⟨_,rfl⟩;obtain⟨b,hB⟩:∃a,(l.getD 1 0).toNat=a:=⟨_,rfl⟩;have hB0:=hB;rw [hA] at b0 ha hk;rw [hB] at b1 hb;have w1:IntKind.i64.wrap (a:Int)=(a:Int):=by rw [N8];omega
 have w2:IntKind.i64.wrap (b:Int)=(b:Int):=by rw [N8];omega
 have m1:((a:Int).tmod 16)=((a % 16:Nat):Int):=by rw [Int.tmod_eq_emod_of_nonneg (by omega)];omega
 have m2:((b:Int).tmod 16)=((b % 16:Nat):Int):=by rw [Int.tmod_eq_emod_of_nonneg (by omega)];omega
 have hwd:=zau (l.drop 2) (by rw [U3];omega);replace hwd:=G hwd
 go_enter func72,ntmps72
 go_wp2;have hbw:Below w.heap.size w (w.alloc (.cells #[.int .i64 0,.int .i64 0,.int .i64 0,.int .i64 0,.int .u32 0,.string ⟨#[]⟩] 39)).drew:=pbx;have k2:Blk (w.alloc (.cells #[.int .i64 0,.int .i64 0,.int .i64 0,.int .i64 0,.int .u32 0,.string ⟨#[]⟩] 39)).drew w.heap.size #[.int .i64 0,.int .i64 0,.int .i64 0,.int .i64 0,.int .u32 0,.string ⟨#[]⟩] 39:=bkx;have p8:0<l.length:=by omega
 have p9:1<l.length:=by omega
 rw [hl] at p8 p9
 apply qQ (Wp:=λw'=>Below w.heap.size w w'/\Blk w' w.heap.size #[.int .i64 0,.int .i64 0,.int .i64 0,.int .i64 0,.int .u32 0,.string ⟨#[]⟩] 39/\Blk w' (w.heap.size+1) #[.int .i64 (a % 16),.int .i64 (b % 16),.int .i64 (xj (l.drop 2):Nat),.int .i64 0,.int .u32 0,.string ⟨#[]⟩] 39)
 case h=>
  refine yl [O 0,O 1,O 2,O 3,O 4,O 5,O 6,O 7,O 8,O 9] none Qv #[true,true,true,true,true,true,true,true,true,true,false,false,false,false] (m:=4) (by kernel_rfl) (by kernel_rfl) trivial ?_
  (repeat (refine zA (v:=?_) rfl rfl (λw' h=>?_) (λK k=>?_);rotate_left;obtain⟨f1,f2,f3,f4,f5,_⟩:=h;(try have e1:=f1.cell);(try have e2:=f2.cell);(try have e3:=f3.cell);(try have e4:=f4.cell);(try have e5:=f5.cell);go_simp;(try with_reducible rfl);go_simp;refine k _ ?_;clear k K))
  refine zY (λ_=>?_);refine Zp 10 [12] (by kernel_rfl) ?_ (qw ?_ Zq)
  ·refine xh rfl (λJ hJ=>?_)
   go_wp2_with fail
   refine(hwd.out _).mono ?_;rintro e w3⟨rfl,hw3⟩;rw [hw3];clear hw3;go_wp2;refine hJ.out _ _ trivial ?_;clear hJ J;refine Zp 11 [12] (by kernel_rfl) ?_ (qw ?_ Zq)
   ·refine xh rfl (λJ hJ=>?_)
    go_wp2;refine hJ.out _ _ trivial ?_;clear hJ J;refine yC [E 12,E 13] (by kernel_rfl) (λ_=>trivial) ?_;refine zQ rfl (by simp) (λJ hJ=>?_);go_wp2;refine hJ.out _ _ trivial ?_;clear hJ J;refine zQ rfl (by simp) (λJ hJ=>?_);go_wp2;refine hJ.out _ _ trivial ?_;clear hJ J;refine zY ?_;exact xI ⟨pbx,bkx,bkx⟩
   ·refine xh rfl (λJ hJ=>?_)
    go_wp2;refine hJ.out _ _ trivial ?_;clear hJ J;refine yC [E 11,E 13] (by kernel_rfl) (λ_=>trivial) ?_;refine zQ rfl (by simp) (λJ hJ=>?_);go_wp2;refine hJ.out _ _ trivial ?_;clear hJ J;refine zQ rfl (by simp) (λJ hJ=>?_);go_wp2;refine hJ.out _ _ trivial ?_;clear hJ J;refine zY ?_;exact xI ⟨pbx,bkx,bkx⟩
  ·refine xh rfl (λJ hJ=>?_)
   go_wp2;refine hJ.out _ _ trivial ?_;clear hJ J;refine yC [E 10,E 11,E 13] (by kernel_rfl) (λ_=>trivial) ?_;refine zQ rfl (by simp) (λJ hJ=>?_);go_wp2_with fail
   refine(hwd.out _).mono ?_;rintro e w3⟨rfl,hw3⟩;rw [hw3];clear hw3;go_wp2;refine hJ.out _ _ trivial ?_;clear hJ J;refine zQ rfl (by simp) (λJ hJ=>?_);go_wp2;refine hJ.out _ _ trivial ?_;clear hJ J;refine zQ rfl (by simp) (λJ hJ=>?_);go_wp2;refine hJ.out _ _ trivial ?_;clear hJ J;refine zY ?_;exact xI ⟨pbx,bkx,bkx⟩
 case h2=>
  rintro w3⟨hb3,kA3,kB3⟩;have hm1:((a % 16:Nat):Int)=(a:Int)% 16:=by omega
  have hm2:((b % 16:Nat):Int)=(b:Int)% 16:=by omega
  clear b0 b1 p8 p9 hbw k2 hwd m1 m2 w1 w2 hA hB
  by_cases h6:Vb l=6
  ·have t6:((a:Int)% 16==6)=true:=by simp;omega
   have hv:zb0 l=.agg #[.int .i64 ((a:Int)% 16),.int .i64 ((b:Int)% 16),.int .i64 (xj (l.drop 2):Nat),.int .i64 (xj (l.drop 4):Nat),.int .u32 ((xj (l.drop 6):Int)*65537),.string ⟨#[]⟩]:=by
    unfold zb0 opP;rw [if_pos h6,if_pos h6,if_neg (by omega)];simp only [hk,hm1,hB0,hm2];rfl
   have hw4:=zau (l.drop 4) (by omega);have hw6:=zau (l.drop 6) (by rw [U3];omega);have lt6:=zav (l.drop 6)
   generalize xj (l.drop 4)=q4 at*
   generalize xj (l.drop 6)=q6 at*
   have u1:IntKind.u32.wrap (q6:Int)=(q6:Int):=by rw [IntKind.wrap_u32];omega
   have u2:IntKind.u32.wrap ((q6:Int)*65537)=(q6:Int)*65537:=by rw [IntKind.wrap_u32];omega
   have cB3:=kB3.cell;have fB3:=kB3.frozen;have lB3:=kB3.lt;replace hw4:=G hw4;replace hw6:=G hw6;replace hv:=G hv;replace hk:=G hk;replace hm1:=G hm1;replace hm2:=G hm2;go_wp2_with fail
   refine(hw4.out _).mono ?_;rintro e w4⟨rfl,rfl⟩;have kA4:=((kA3.other (p:=⟨w.heap.size+1,3,none⟩) (by simp) (.int .i64 (q4:Nat))).drew).drew;have kB4:=((kB3.set (o:=3) (.int .i64 (q4:Nat))).drew).drew;clear cB3 fB3 lB3;have cB3:=kB3.drew.cell;have fB3:=kB3.drew.frozen;have lB3:=kB3.drew.lt;go_wp2_with fail
   refine(hw6.out _).mono ?_;rintro e w5⟨rfl,hw5⟩;have hbw5:Below w.heap.size w w5:=by rw [hw5];exact pbx
   rw [← hw5] at kA4 kB4;clear hw5 cB3 fB3 lB3 kA3 kB3;have kB5:=kB4.set (o:=4) (.int .u32 ((q6:Int)*65537));have kA5:=kA4.other (p:=⟨w.heap.size+1,4,none⟩) (by simp) (.int .u32 ((q6:Int)*65537));have hbw6:=zm (p:=⟨w.heap.size+1,4,none⟩) hbw5 (by simp) (.int .u32 ((q6:Int)*65537));have cB4:=kB4.cell;have fB4:=kB4.frozen;have lB4:=kB4.lt;have cB5:=kB5.cell;have cA5:=kA5.cell;have fA5:=kA5.frozen;have lA5:=kA5.lt;replace hbw6:=G hbw6;have rr:=((((((kA5.set (o:=0) (.int .i64 ((a:Int)% 16))).set (o:=1) (.int .i64 ((b:Int)% 16))).set (o:=2) (.int .i64 (xj (l.drop 2):Nat))).set (o:=3) (.int .i64 (q4:Nat))).set (o:=4) (.int .u32 ((q6:Int)*65537))).set (o:=5) (.string ⟨#[]⟩)).cell;go_wp2_with fail
   rw [hv.out];exact bodyPost_ret (v:=.agg #[.int .i64 ((a:Int)% 16),.int .i64 ((b:Int)% 16),.int .i64 (xj (l.drop 2):Nat),(.int .i64 (q4:Nat)),(.int .u32 ((q6:Int)*65537)),(.string ⟨#[]⟩)]) (by simp [results,Tryz.results72,go_sem,rr]) rfl ⟨rfl,zm (zm (zm (zm (zm (zm hbw6.out (N0 _) _) (N0 _) _) (N0 _) _) (N0 _) _) (N0 _) _) (N0 _) _⟩
  ·by_cases h1:Vb l=1
   ·have t6:((a:Int)% 16==6)=false:=by simp;omega
    have t1:((a:Int)% 16==1)=true:=by simp;omega
    have hv:zb0 l=.agg #[.int .i64 ((a:Int)% 16),.int .i64 ((b:Int)% 16),.int .i64 (xj (l.drop 2):Nat),.int .i64 0,.int .u32 0,.string (bs (l.drop 4))]:=by
     unfold zb0 opP;rw [if_neg h6,if_neg h6,if_pos h1];simp only [hk,hm1,hB0,hm2];rfl
    replace hv:=G hv;replace hk:=G hk;replace hm1:=G hm1;replace hm2:=G hm2;have kB5:=kB3.set (o:=5) (.string (bs (l.drop 4)));have kA5:=kA3.other (p:=⟨w.heap.size+1,5,none⟩) (by simp) (.string (bs (l.drop 4)));have hbw6:=zm (p:=⟨w.heap.size+1,5,none⟩) hb3 (by simp) (.string (bs (l.drop 4)));have cB3:=kB3.cell;have fB3:=kB3.frozen;have lB3:=kB3.lt;have cB5:=kB5.cell;have cA5:=kA5.cell;have fA5:=kA5.frozen;have lA5:=kA5.lt;replace hbw6:=G hbw6;have rr:=((((((kA5.set (o:=0) (.int .i64 ((a:Int)% 16))).set (o:=1) (.int .i64 ((b:Int)% 16))).set (o:=2) (.int .i64 (xj (l.drop 2):Nat))).set (o:=3) (.int .i64 0)).set (o:=4) (.int .u32 0)).set (o:=5) (.string (bs (l.drop 4)))).cell;go_wp2_with fail
    rw [hv.out];exact bodyPost_ret (v:=.agg #[.int .i64 ((a:Int)% 16),.int .i64 ((b:Int)% 16),.int .i64 (xj (l.drop 2):Nat),(.int .i64 0),(.int .u32 0),(.string (bs (l.drop 4)))]) (by simp [results,Tryz.results72,go_sem,rr]) rfl ⟨rfl,zm (zm (zm (zm (zm (zm hbw6.out (N0 _) _) (N0 _) _) (N0 _) _) (N0 _) _) (N0 _) _) (N0 _) _⟩
   ·have t6:((a:Int)% 16==6)=false:=by simp;omega
    have t1:((a:Int)% 16==1)=false:=by simp;omega
    have hv:zb0 l=.agg #[.int .i64 ((a:Int)% 16),.int .i64 ((b:Int)% 16),.int .i64 (xj (l.drop 2):Nat),.int .i64 0,.int .u32 0,.string ⟨#[]⟩]:=by
     unfold zb0 opP;rw [if_neg h6,if_neg h6,if_neg h1];simp only [hk,hm1,hB0,hm2];rfl
    replace hv:=G hv;replace hk:=G hk;replace hm1:=G hm1;replace hm2:=G hm2;have hbw6:=hb3;have kB5:=kB3;have kA5:=kA3;have cB5:=kB5.cell;have cA5:=kA5.cell;have fA5:=kA5.frozen;have lA5:=kA5.lt;replace hbw6:=G hbw6;have rr:=((((((kA5.set (o:=0) (.int .i64 ((a:Int)% 16))).set (o:=1) (.int .i64 ((b:Int)% 16))).set (o:=2) (.int .i64 (xj (l.drop 2):Nat))).set (o:=3) (.int .i64 0)).set (o:=4) (.int .u32 0)).set (o:=5) (.string ⟨#[]⟩)).cell;go_wp2_with fail
    rw [hv.out];exact bodyPost_ret (v:=.agg #[.int .i64 ((a:Int)% 16),.int .i64 ((b:Int)% 16),.int .i64 (xj (l.drop 2):Nat),(.int .i64 0),(.int .u32 0),(.string ⟨#[]⟩)]) (by simp [results,Tryz.results72,go_sem,rr]) rfl ⟨rfl,zm (zm (zm (zm (zm (zm hbw6.out (N0 _) _) (N0 _) _) (N0 _) _) (N0 _) _) (N0 _) _) (N0 _) _⟩
def yp(l:List UInt8)(k:Nat):List UInt8:=(l.drop (8*k)).take 8
def zhV(l:List UInt8)(k:Nat):List OpD:=(List.range k).map λi=>opP (yp l i)
def XG(l:List UInt8):List OpD:=zhV l (l.length / 8)
theorem Ya(l:List UInt8)(k:Nat):zhV l (k+1)=zhV l k++ [opP (yp l k)]:=by
 unfold zhV;rw [List.range_succ,List.map_append];rfl
theorem ZJ(l:List UInt8)(k:Nat):(zhV l k).length=k:=by simp [zhV]
theorem QD {l:List UInt8}{k:Nat}(h:8*(k+1)<=l.length):(yp l k).length=8:=by
 unfold yp;rw [N7,U3];omega
def opC(o:OpD):List Value:=[.int .i64 o.kind,.int .i64 o.node,.int .i64 o.a,.int .i64 o.b,.int .u32 (o.mask:Nat),.string (bs o.s)]
theorem opT:Ju prog 22 39 6 56 (.agg #[.int .i64 0,.int .i64 0,.int .i64 0,.int .i64 0,.int .u32 0,.string ⟨#[]⟩]):=⟨Tryz.underlying22,by kernel_rfl,rfl,by decide,by decide⟩
theorem zaw(l:List OpD):∀u∈l.flatMap opC,u.oneCell'=true:=by
 intro u hu;obtain⟨m,_,hm⟩:=List.mem_flatMap.1 hu;simp only [opC,List.mem_cons,List.mem_nil_iff,or_false] at hm
 rcases hm with rfl|rfl|rfl|rfl|rfl|rfl<;>rfl
theorem zf2(l:List UInt8)(w:World):Calls prog 71 #[.string (bs l)] w λe w'=>
 e=.returned (.func (.func 99) #[] #[.pointer (some ⟨w.heap.size,0,none⟩)])/\w'=w.alloc (.cells #[.string (bs l)] 9):=by
 go_enter func71,ntmps71
 go_wp2;go_ret
 exact⟨rfl,rfl⟩
theorem zdl(cb:Nat)(l:List UInt8)(hlen:l.length<=1073741824):
 XE Fence.wide 2 prog 99 #[.pointer (some ⟨cb,0,none⟩)] (λx:List UInt8=> #[.string (bs x)])
  (λ(k:Nat) x=>8*(k+1)<=l.length/\x=yp l k) (λk _=>k+1) (λk=>l.length<8*(k+1))
  (λ_ W=>Blk W cb #[.string (bs l)] 9) 0:=by
 intro lp J Jx W hJ hJx hRd hY h0;have e0:=(hRd _ _ _ h0).cell;have hF:Fence.wide.fn 99:=trivial;have hro:Fence.wide.round=none:=rfl;have hsz:=zC l;refine callsIn_of_wp func99 rfl hF ?_ hro;simp only [ntmps99,R8,Nat.reduceAdd,Nat.reduceSub]
 gi_wp2
 gi_loopw [3] (λp wr=>∃(k:Nat)(X:Nat->Prop),p=.int .i64 (8*k:Nat)/\8*k<=l.length/\J k X wr) (λp _=>l.length - (intOf p).toNat)
 case atStart=>exact⟨0,_,rfl,Nat.zero_le _,h0⟩
 case round=>
  obtain⟨k,X,rfl,hk,hJs⟩:=hrel;clear e0;have e1:=(hRd _ _ _ hJs).cell;obtain⟨m,hm⟩:∃m,8*k=m:=⟨_,rfl⟩;have hpc:yp l k=(l.drop m).take 8:=by rw [← hm];rfl
  have hn8:8*(k+1)=m+8:=by omega
  rw [hm] at hk⊢;have hw8:IntKind.i64.wrap ((m:Int)+8)=(m:Int)+8:=by rw [N8];omega
  replace hm:=G hm
  by_cases hlt:m+8<=l.length
  ·have t1:decide ((m:Int)+8<=(l.length:Int))=true:=decide_eq_true (by omega)
   have y0:(0:Int)<=(m:Int):=by omega
   have y1:(m:Int)<=(m:Int)+8:=by omega
   have y2:(m:Int)+8<=(l.length:Int):=by omega
   have y3:((m:Int)+8).toNat=m+8:=by omega
   have hex:(bs l).extract m (m+8)=bs (yp l k):=(jR l m (m+8)).trans (by rw [hpc,Nat.add_sub_cancel_left]);obtain⟨fn,tmps,assign,body,hy,hR⟩:=hY k (yp l k) X wr hJs ⟨by omega,rfl⟩;replace hpc:=G hpc;replace hn8:=G hn8
   gi_wp2
   refine hR.mono ?_;rintro e W'(⟨rfl,hJ', -⟩|⟨rfl,hx'⟩)
   ·clear hR hy e1
    gi_wp2
    go_roundw
    case rel=>exact⟨k+1,_,by rw [hn8.out];rfl,by rw [hn8.out];exact hlt,hJ'⟩
    case measure=>simp [intOf];omega
   ·gi_wp2
    refine bodyPost_ret (results_none rfl _ _ _) rfl ?_;exact⟨⟨_,rfl⟩,.inr ⟨_,hx'⟩⟩
  ·have t1:decide ((m:Int)+8<=(l.length:Int))=false:=decide_eq_false (by omega)
   gi_wp2
   go_end0
   exact⟨⟨_,rfl⟩,.inl ⟨k,X,by omega,hJs⟩⟩
def ziX(l:List UInt8)(nb:Nat)(W0:World)(k:Nat)(X:Nat->Prop)(W:World):Prop:=
 Fr (λj=>j=nb) W0 X W/\8*k<=l.length/\∃nv,Blk W nb #[nv] 22/\Row W 39 6 nv k ((zhV l k).flatMap opC)/\(∀g,nv.ownBlock=some g->W0.heap.size<=g/\¬X g)
theorem ziX.stab {l:List UInt8}{nb:Nat}{W0:World}{k:Nat}{X X':Nat->Prop}{W W':World}(h1:nb<W0.heap.size)
 (h:ziX l nb W0 k X W) (hm:Mod X W W') (hx:∀k,X' k->X k∨(W.heap.size<=k/\k<W'.heap.size)):ziX l nb W0 k X' W':=by
 obtain⟨hfr,hk,pv,kp,kw,hn⟩:=h;refine⟨hfr.step hm hx,hk,pv,kp.kept (hfr.block hm h1),kw.mod hm (λg hg=>(hn g hg).2),λg hg=>⟨(hn g hg).1,λhX=>?_⟩⟩
 rcases hx g hX with h|h
 ·exact(hn g hg).2 h
 ·have:=kw.lt hg;omega
theorem zej(l:List UInt8)(hl:l.length<=1200)(w:World):Calls prog 37 #[.string (bs l)] w λe w'=>
 ∃lv,e=.returned lv/\Row w' 39 6 lv (XG l).length ((XG l).flatMap opC)/\Below w.heap.size w w'/\(∀g,lv.ownBlock=some g->w.heap.size<=g):=by
 refine zl func37 rfl ?_;simp only [ntmps37,R8,Nat.reduceAdd,Nat.reduceSub];go_wp2;go_step3;go_wp2;go_step3;go_wp2_with fail
 refine(zf2 l _).mono ?_;rintro e w1⟨rfl,hw1⟩;have hb1:Below w.heap.size w w1:=by rw [hw1];exact pbx
 have kn1:Blk w1 w.heap.size #[.slice none 0 0] 22:=by rw [hw1];exact bkx
 have kc1:Blk w1 (w.heap.size+1) #[.string (bs l)] 9:=by rw [hw1];exact bkx
 have hz1:w1.heap.size=w.heap.size+2:=by rw [hw1];simp
 clear hw1;go_wp2_with fail
 refine yh (gf:=99) (lb:=#[.pointer (some ⟨w.heap.size+1,0,none⟩)]) rfl (enters_of func99 (by kernel_rfl) rfl)
  (zdl (w.heap.size+1) l (by omega)) (λ_=>rfl)
  (λk X W=>ziX l w.heap.size w1 k X W)
  (λ_ _ _=>False)
  (λk X X' W W' h hm hx=>h.stab (by omega) hm hx)
  (λ_ _ X X' W W' h hm hx=>h)
  (λk X W h=>kc1.mod h.1.2 (by omega))
  ⟨Fr.refl _ _,Nat.zero_le _,_,kn1,zX _ _ _,by simp [Value.ownBlock]⟩
  (λx=>[(4,.string (bs x))]) ?assign ?body ?done ?stop
 case assign=>
  intro l' x W K hK;rw [zR] at hK⊢;simp only [List.foldl_cons,List.foldl_nil] at hK
  gi_wp2
  exact hK
 case stop=>rintro D c X W hD hXD h;exact h.elim
 case body=>
  rintro l' k x X W⟨hfr,hk,nv,kN,kR,hn⟩⟨hlt,rfl⟩ hXl _;rw [zR];simp only [List.foldl_cons,List.foldl_nil];have hp8:=QD hlt;have hrd:=ziW (yp l k) hp8;have en:=kN.cell;obtain⟨na,nc,rfl⟩:=kR.src.shape;have t1:((k:Int)==10000)=false:=by simp;omega
  have hsucc:=Ya l k;have hfl:((zhV l k)++ [opP (yp l k)]).flatMap opC=(zhV l k).flatMap opC++opC (opP (yp l k)):=by rw [U5];simp
  obtain⟨x,hx⟩:∃x,yp l k=x:=⟨_,rfl⟩;rw [hx] at hrd hp8 hsucc hfl⊢;unfold zb0 at hrd;replace hsucc:=G hsucc;replace hfl:=G hfl;replace hx:=G hx;replace hrd:=G hrd;replace hn:=G hn
  gi_wp2
  refine jy [O 0,O 1,E 2,E 3,E 4,E 5] (some 5) (λw'=>Blk w' w.heap.size #[.slice na k nc] 22/\True) (by kernel_rfl) (by kernel_rfl) ⟨kN.drew,trivial⟩ ?_;clear en
  (repeat (refine za (v:=?_) rfl rfl (λw' h=>?_) (λK k=>?_);rotate_left;obtain⟨f1,_⟩:=h;have e1:=f1.cell;go_simp;(try with_reducible rfl);go_simp;refine k _ ?_;clear k K))
  refine zc rfl (λK hK=>?_);go_wp2_with fail
  refine(hrd.out _).mono ?_;rintro e w3⟨rfl,hb3⟩;have kN3:=kN.drew.call hb3;go_wp2;refine hK.out _ _ (λ_=>⟨kN3,trivial⟩) ?_;clear hK K;refine zc rfl (λK hK=>?_);go_wp2;obtain⟨w5,hw5⟩:∃w5,w5=w3.alloc (.cells #[.int .i64 (opP x).kind,.int .i64 (opP x).node,.int .i64 (opP x).a,.int .i64 (opP x).b,.int .u32 ((opP x).mask:Nat),.string (bs (opP x).s)] 39):=⟨_,rfl⟩;have k5:Blk w5 w3.heap.size #[.int .i64 (opP x).kind,.int .i64 (opP x).node,.int .i64 (opP x).a,.int .i64 (opP x).b,.int .u32 ((opP x).mask:Nat),.string (bs (opP x).s)] 39:=by rw [hw5];exact Blk.new rfl
  have kN5:=kN3.alloc (.cells #[.int .i64 (opP x).kind,.int .i64 (opP x).node,.int .i64 (opP x).a,.int .i64 (opP x).b,.int .u32 ((opP x).mask:Nat),.string (bs (opP x).s)] 39);rw [← hw5] at kN5⊢;have hb5:Below W.heap.size W w5:=by rw [hw5];exact zg (zf (zo (N2 _ _)) hb3) _
  refine hK.out _ _ (λ_=>⟨kN5,trivial⟩) ?_;clear hK K hw5;refine zc rfl (λK hK=>?_);have hsrc:Src w5 (.slice (some ⟨w3.heap.size,0,none⟩) 1 1) 6 1 (opC (opP x)):=jB (n:=1) (size:=6) (cap:=1) k5 rfl (N0 1);obtain⟨nv',w6,hrun,hrow,hgr,hown⟩:=zI opT (kR.below hb5) hsrc (λu hu=>zaw [opP x] u (by simpa using hu)) (by omega) 22;refine zu rfl _ _ _ rfl rfl rfl hrun ?_;unfold wpList;have hnB:∀g,(Value.slice na k nc).ownBlock=some g->g≠w.heap.size/\w1.heap.size<=g/\¬X g:=λg hg=>⟨by have:=(hn.out g hg).1;omega,(hn.out g hg).1,(hn.out g hg).2⟩
  have kN6:=kN5.kept (hgr.block _ kN5.lt (λe=>(hnB _ e.symm).1 rfl));refine hK.out _ _ (λ_=>⟨kN6,trivial⟩) ?_;clear hK K hrun;refine zc rfl (λK hK=>?_);obtain⟨va,vc,rfl⟩:=hrow.src.shape;have en6:=kN6.cell;have fn6:=kN6.frozen;replace hnB:=G hnB;go_wp2;refine hK.out _ _ (λh=>absurd rfl h) ?_;clear hK K en6 fn6;refine ze ?_
  have hm:Mod (λj=>j=w.heap.size∨(Value.slice na k nc).ownBlock=some j) W (w6.setCell ⟨w.heap.size,0,none⟩ (.slice va (k+1) vc)):=
   ((Mod.of_below (λj=>j=w.heap.size∨(Value.slice na k nc).ownBlock=some j) hb5).trans (Mod.grown hgr (λk h=>.inr h)) (λ_ _ e=>e) (λ_ _ e=>e)).thenSet (p:=⟨w.heap.size,0,none⟩) (.inl rfl) _
  refine⟨⟨hfr.mod hm (λj hj h=>?_),by omega,_,kN6.set _,?_,?_⟩,ju.of_mod hm (λj hj hX h=>?_)⟩
  ·rcases h with h|h
   ·exact h
   ·have:=(hnB.out j h).2.1;omega
  ·rw [hsucc.out,hfl.out]
   exact Row.kept (w:=w6) hrow (λg hg=>N4 _ _ _ _ (show g≠w.heap.size from λe=>by
    rw [hg] at hown
    rcases hown with h|h
    ·exact(hnB.out g h.symm).1 e
    ·have:=kN5.lt;simp at h;omega))
  ·intro g hg
   rw [hg] at hown
   rcases hown with h|h
   ·exact(hnB.out g h.symm).2
   ·simp at h
    have h1:=hfr.2.size;have h2:=hb5.size;exact⟨by omega,λhX=>by have:=(hfr.1 g hX).2;omega⟩
  ·have:=hfr.1 j hX
   rcases h with h|h
   ·omega
   ·exact(hnB.out j h).2.2 hX
 case done=>
  rintro D k X W hD hXD hfin⟨hfr,hk,nv,kN,kR,hn⟩ hdef;obtain rfl:k=l.length / 8:=by have:l.length<8*(k+1):=hfin;omega
  have hbW:Below w.heap.size w W:=hb1.trans (hfr.below (by omega) (λj hj=>by omega));obtain⟨na,nc,rfl⟩:=kR.src.shape;have en:=kN.cell;replace hn:=G hn;replace hdef:=G hdef;go_wp2;rw [Exit.noGoto_ret];refine zS (D:=D) (v:=.slice na (l.length / 8) nc) hdef.out (by simp [results,Tryz.results37,go_sem]) ?_;have hDw:w.heap.size<=D:=by omega
  refine⟨_,rfl,?_,zF hbW hDw _,λg hg=>by have:=(hn.out g hg).1;omega⟩;unfold XG;rw [ZJ];exact kR.kept (λg hg=>U1 (λe=>(hn.out g hg).2 (e ▸ hXD)))
