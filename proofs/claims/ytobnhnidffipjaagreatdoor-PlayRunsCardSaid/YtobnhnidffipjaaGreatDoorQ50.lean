/- PARTS OF THE PROOF. -/
import Derived.Test.YtobnhnidffipjaaGreatDoorQ45
import Derived.Test.YtobnhnidffipjaaGreatDoorQ49
set_option maxRecDepth 8000
set_option maxHeartbeats 4000000
open Go.Proofs.Tryz
namespace Go.Proofs.YtobnhnidffipjaaGreatDoor
section
open Go Go.RowKit Go.Shelf Go.Extern.Stop Go.Stop Go.Extern
attribute [local go_sem] Oper.semAt_some zw zn
def ZP(s:StD)(S:zj)(l:List OpD):zj:=l.foldl (λS o=>(doW s S o).1) S
def zb4(s:StD)(S:zj):List OpD->Nat
 | []=>0
 |o::l=>(if(doW s S o).2=0 then 1 else 0)+zb4 s (doW s S o).1 l
theorem ZL {v:Int} :∀(l:List OpD)(k L:Nat)(S:zj),zr v k L S->(∀o∈l,zhH o)->L+16*l.length<=3000000000->zr v (k+l.length) (L+16*l.length) (ZP (zp v) S l)
 | [],k,L,S,h,_,_=>h
 |o::l,k,L,S,h,ho,hL=>by
  simp only [List.length_cons] at hL⊢;have:=ZL l (k+1) (L+16) _ (h.does (by omega) o (ho o (by simp)).len (ho o (by simp)).mask) (λx hx=>ho x (by simp [hx])) (by omega)
  rwa [show k+1+l.length=k+(l.length+1)by omega,show L+16+16*l.length=L+16*(l.length+1)by omega] at this
theorem QG(s:StD)(S:zj)(l:List OpD)(o:OpD):ZP s S (l++ [o])=(doW s (ZP s S l) o).1:=by
 unfold ZP;rw [List.foldl_append];rfl
theorem XA(s:StD)(o:OpD):∀(l:List OpD)(S:zj),zb4 s S (l++ [o])=zb4 s S l+(if(doW s (ZP s S l) o).2=0 then 1 else 0)
 | [],S=>by
   show(if(doW s S o).2=0 then 1 else 0)+0=0+_
   rw [Nat.zero_add,Nat.add_zero];rfl
 |x::l,S=>by
  have ih:=XA s o l (doW s S x).1;rw [List.cons_append];unfold zb4;rw [ih]
  show _=_+(if(doW s (ZP s (doW s S x).1 l) o).2=0 then 1 else 0)
  omega
theorem zdt(s:StD):∀(l:List OpD)(S:zj),zb4 s S l<=l.length
 | [],_=>N0 _
 |o::l,S=>by
  have:=zdt s l (doW s S o).1;unfold zb4;rw [List.length_cons]
  split<;>omega
theorem XB:∀(l:List OpD)(k:Nat)(x:OpD),l[k]?=some x->∀j,j<6->(l.flatMap opC)[k*6+j]?=(opC x)[j]?
 | [],k,x,h,_,_=>by simp at h
 |y::l,0,x,h,j,hj=>by
  simp only [List.getElem?_cons_zero,Option.some.injEq] at h;subst h;rw [List.flatMap_cons,U8 (by simp only [opC,List.length_cons,List.length_nil];omega),Nat.zero_mul,Nat.zero_add]
 |y::l,k+1,x,h,j,hj=>by
  simp only [List.getElem?_cons_succ] at h;rw [List.flatMap_cons,U6 (by simp only [opC,List.length_cons,List.length_nil];omega)];have:=XB l k x h j hj;rw [← this]
  congr 1
  simp only [opC,List.length_cons,List.length_nil];omega
theorem zkE {l:List UInt8}(h:l.length=8):zhH (opP l):=by
 have h1:=zav (l.drop 6);have h2:=zav (l.drop 4);refine⟨?_,?_,?_⟩
 ·show(if Vb l=1 then l.drop 4 else []).length<=300
  split
  ·rw [U3];omega
  ·simp
 ·show(if Vb l=6 then xj (l.drop 6)*65537 else 0)<4294967296
  split<;>omega
 ·show(if Vb l=6 then((xj (l.drop 4):Nat):Int)else 0)<9223372036854775808
  split<;>omega
theorem zdu(l:List UInt8):∀o∈XG l,zhH o:=λo ho=>by
 obtain⟨i,hi,rfl⟩:=List.mem_map.1 ho;have:=List.mem_range.1 hi;exact zkE (QD (by omega))
theorem zjb {a:Addr}{v:Int}{k0 L0:Nat}{B:Nat}{K:WK}{S:zj}{t:List Nat}{ow:Own}{w:World}(hv:known v=true)(ht:t≠ [])(hG:zr v k0 L0 S)(l:List OpD)(hk0:k0+l.length<=100000000)(hL:L0+16*l.length<=3000000000)(hok:∀o∈l,zhH o)
 (lv:Value) (hrow:Row w 39 6 lv l.length (l.flatMap opC)) (hlo:∀g,lv.ownBlock=some g->ow g=[]) (hW:zy B K S t ow w) (he:jA w a) (hge:ow 2=[]):
 Calls prog 73 #[.pointer (some ⟨B,0,none⟩),lv] w (vi B K (ZP (zp v) S l) t ow w (.int .i64 (zb4 (zp v) S l:Nat))):=by
 obtain⟨la,lc,rfl⟩:=hrow.wideV.shape
 have hels:∀k,k<=l.length->zr v (k0+k) (L0+16*k) (ZP (zp v) S (l.take k)):=λk hk=>by
  have:=ZL (l.take k) k0 L0 S hG (λo ho=>hok o (List.mem_of_mem_take ho)) (by rw [N7];omega)
  rwa [N7,Nat.min_eq_left hk] at this
 have hel0:=he.lt;replace hels:=G hels;replace hok:=G hok;replace hrow:=G hrow;replace hlo:=G hlo;replace hG:=G hG
 go_enter func73,ntmps73
 go_wp2
 go_loopw [5,10] (λp5 p10 wr=>∃(k:Nat)(ow':Own),p5=.int .i64 (zb4 (zp v) S (l.take k):Nat)/\p10=.int .i64 (k:Nat)/\k<=l.length/\zq t ow w ow' wr/\zy B K (ZP (zp v) S (l.take k)) t ow' wr) (λ_ p10 _=>l.length - (intOf p10).toNat)
 case atStart=>exact⟨0,ow,rfl,rfl,Nat.zero_le _,zq.refl _ _ _,hW⟩
 case round=>
  obtain⟨k,ow2,rfl,rfl,hk1,hst,hW2⟩:=hrel;clear hW
  by_cases hlt:k<l.length
  ·have t3:decide ((k:Int)<(l.length:Int))=true:=by simpa using hlt
   have hwk:IntKind.i64.wrap ((k:Int)+1)=(k:Int)+1:=by rw [N8];omega
   have y0:(0:Int)<=(k:Int):=by omega
   have y1:(k:Int)<(l.length:Int):=by omega
   obtain⟨o,hx⟩:∃x,l[k]?=some x:=⟨_,N3 hlt⟩;have hrowr:=hrow.out.kept (w':=wr) (λg hg=>hst.block (hrow.out.lt hg) (by rw [hlo.out g hg];exact zi ht))
   rcases hrowr.src.2 with⟨h,h0⟩|⟨b,off,cap,h, -,hr⟩
   ·omega
   cases h
   have hob:=hok.out o (List.mem_of_getElem? hx)
   have hcell:∀j,j<6->wr.cell? ⟨b,off+(k*6+j),none⟩=(opC o)[j]?:=λj hj=>by
    have h1:=XB l k o hx j hj
    cases hu:(opC o)[j]? with
    |none=>simp [opC] at hu;omega
    |some u=>exact hr _ u (h1.trans hu)
   have c0:wr.cell? ⟨b,off+k*6,none⟩=(opC o)[0]?:=hcell 0 (by omega);have c1:wr.cell? ⟨b,off+k*6+1,none⟩=(opC o)[1]?:=hcell 1 (by omega);have c2:wr.cell? ⟨b,off+k*6+2,none⟩=(opC o)[2]?:=hcell 2 (by omega);have c3:wr.cell? ⟨b,off+k*6+3,none⟩=(opC o)[3]?:=hcell 3 (by omega);have c4:wr.cell? ⟨b,off+k*6+4,none⟩=(opC o)[4]?:=hcell 4 (by omega);have c5:wr.cell? ⟨b,off+k*6+5,none⟩=(opC o)[5]?:=hcell 5 (by omega);have hgk:=hels.out k hk1;have hcn:=XA (zp v) o (l.take k) S;have hsn:=QG (zp v) S (l.take k) o;have hcl:=zdt (zp v) (l.take k) S;rw [N7] at hcl;have htk:l.take k++ [o]=l.take (k+1):=by rw [List.take_add_one,hx];rfl
   rw [htk] at hcn hsn;have heW:=he.step ht hst hge;have hgeW:ow2 2=[]:=by rw [hst.agree _ hel0];exact hge
   have hdo:=λW (hb:Below wr.heap.size wr W)=>zdn hgk (by omega) (by omega) hv ht o hob ((zy.loc B K _ t).cut hW2 hb) (heW.step ht (zq.wrap hb (zq.refl _ _ _)) hgeW) (by rw [Own.cut_old (by have:=hst.size;omega)];exact hgeW)
   obtain⟨⟨S2,er⟩,hd⟩:∃q,doW (zp v) (ZP (zp v) S (l.take k)) o=q:=⟨_,rfl⟩;simp only [hd] at hdo hcn hsn;obtain⟨c,hc⟩:∃c,zb4 (zp v) S (l.take k)=c:=⟨_,rfl⟩;rw [hc] at hcn hcl⊢;have hwc:IntKind.i64.wrap ((c:Int)+1)=(c:Int)+1:=by rw [N8];omega
   obtain⟨knd,nod,A,bit,msk,str⟩:=o;simp only [opC] at c0 c1 c2 c3 c4 c5;simp only [List.getElem?_cons_zero,List.getElem?_cons_succ] at c0 c1 c2 c3 c4 c5;unfold opV at hdo;simp only at hdo;replace hx:=G hx;replace hr:=G hr;replace hcell:=G hcell;replace hdo:=G hdo;replace hgk:=G hgk;replace hsn:=G hsn;replace hcn:=G hcn;replace hd:=G hd;replace hc:=G hc;replace htk:=G htk;replace hob:=G hob;replace hrowr:=G hrowr;replace hcl:=G hcl;have hb3:Below wr.heap.size wr (wr.alloc (.cells #[.int .i64 knd,.int .i64 nod,.int .i64 A,.int .i64 bit,.int .u32 (msk:Nat),.string (bs str)] 39)):=zg (N2 _ _) _;have hd3:=hdo.out _ hb3;replace hd3:=G hd3
   by_cases her:er=0
   ·have t5:(er==0)=true:=by simpa using her
    have hcn1:zb4 (zp v) S (l.take (k+1))=c+1:=by rw [hcn.out,if_pos her]
    replace hcn1:=G hcn1;go_wp2_with fail
    refine hd3.out.mono ?_;rintro e w4⟨rfl,ow4,hs4,hW4⟩;go_wp2
    go_roundw
    case rel=>exact⟨k+1,ow4,by rw [hcn1.out];simp,by simp,by omega,hst.trans (zq.wrap hb3 hs4),by rw [hsn.out];exact hW4⟩
    case measure=>simp [intOf];omega
   ·have t5:(er==0)=false:=by simpa using her
    have hcn1:zb4 (zp v) S (l.take (k+1))=c:=by rw [hcn.out,if_neg her];rfl
    replace hcn1:=G hcn1;go_wp2_with fail
    refine hd3.out.mono ?_;rintro e w4⟨rfl,ow4,hs4,hW4⟩;go_wp2
    go_roundw
    case rel=>exact⟨k+1,ow4,by rw [hcn1.out],by simp,by omega,hst.trans (zq.wrap hb3 hs4),by rw [hsn.out];exact hW4⟩
    case measure=>simp [intOf];omega
  ·obtain rfl:k=l.length:=by omega
   have t3:decide ((l.length:Int)<(l.length:Int))=false:=by simp
   rw [List.take_length] at hW2⊢;go_wp2;go_ret
   exact⟨rfl,ow2,hst,hW2⟩
def zhS(n v er:Int):Prop:=∀W,Calls prog 13 #[.int .i64 n,.int .i64 v,.int .i64 262144,.slice none 0 0] W λe w'=>e=.returned (.tuple #[.pointer none,.int .i64 er])/\Below W.heap.size W w'
theorem zkF {n v:Int}(h:¬((1<=n/\n<=16)/\known v=true)):∃er:Int,(er==0)=false/\zhS n v er:=by
 by_cases hn:n<1∨16<n
 ·exact⟨2,rfl,λW=>(zek n v 262144 hn W).mono (λe w' ⟨h1,h2⟩=>⟨h1,by rw [h2];exact N2 _ _⟩)⟩
 ·obtain⟨m,rfl⟩:∃m:Nat,n=m:=⟨n.toNat,by omega⟩
  have hk:known v=false:=by
   cases hk:known v with
   |false=>rfl
   |true=>exact absurd ⟨⟨by omega,by omega⟩,hk⟩ h
  exact⟨130,rfl,λW=>zi1 m (by omega) v 262144 hk (by omega) (by omega) W⟩
variable {n v er:Int}
theorem zb5(he:(er==0)=false)(hnew:zhS n v er)(l:List UInt8)(w:World):Calls prog 38 #[.int .i64 n,.int .i64 v,.string (bs l)] w λe w'=>e=.returned (.tuple #[.pointer none,.int .i64 0,.int .i64 er])/\Below w.heap.size w w':=by
 have hn:=hnew w;have t1:(er !=0)=true:=by simpa [bne] using he
 replace hn:=G hn;replace hnew:=G hnew
 go_enter func38,ntmps38
 go_wp2_with fail
 refine hn.out.mono ?_;rintro e w2⟨rfl,hb2⟩;go_wp2;go_ret3
 exact⟨rfl,hb2⟩
theorem zdv(he:(er==0)=false)(hnew:zhS n v er)(l:List UInt8)(w:World):Calls prog 21 #[.int .i64 n,.int .i64 v,.string (bs l)] w λe w'=>e=.returned (.tuple #[.int .i64 0,.slice none 0 0,.int .i64 er])/\Below w.heap.size w w':=by
 have hn:=zb5 he hnew l w;have t1:(er !=0)=true:=by simpa [bne] using he
 replace hn:=G hn;replace hnew:=G hnew
 go_enter func21,ntmps21
 go_wp2_with fail
 refine hn.out.mono ?_;rintro e w2⟨rfl,hb2⟩;go_wp2;go_ret3
 exact⟨rfl,hb2⟩
theorem zj9(he:(er==0)=false)(hnew:zhS n v er)(l:List UInt8)(w:World):Calls prog 23 #[.int .i64 n,.int .i64 v,.string (bs l)] w λe w'=>e=.returned (.tuple #[.bool false,.slice none 0 0,.int .i64 er])/\Below w.heap.size w w':=by
 have hn:=zb5 he hnew l w;have t1:(er !=0)=true:=by simpa [bne] using he
 replace hn:=G hn;replace hnew:=G hnew
 go_enter func23,ntmps23
 go_wp2_with fail
 refine hn.out.mono ?_;rintro e w2⟨rfl,hb2⟩;go_wp2;go_ret3
 exact⟨rfl,hb2⟩
def yL(n:Nat)(v:Int)(l:List UInt8):zj:=ZP (zp v) (JZ n v 262144 (zp v)) (XG l)
def Y0(n:Nat)(v:Int)(l:List UInt8):Nat:=zb4 (zp v) (JZ n v 262144 (zp v)) (XG l)
theorem Zu {n:Nat}(hn:1<=n/\n<=16){v:Int}{l:List UInt8}(hl:l.length<=1200):zr v 150 2400 (yL n v l):=by
 have h:=ZL (XG l) 0 0 _ (Xl (v:=v) (cap:=262144) hn (by omega) (by omega)) (zdu l) (by unfold XG;rw [ZJ];omega);unfold XG at h;rw [ZJ] at h;exact h.mono (by omega) (by omega)
def ZM(n:Nat)(v:Int)(l:List UInt8)(t:List Nat)(ow:Own)(w:World)(e:Ending)(w':World):Prop:=
 ∃B K ow',e=.returned (.tuple #[.pointer (some ⟨B,0,none⟩),.int .i64 (Y0 n v l:Nat),.int .i64 0])/\zq t ow w ow' w'/\zy B K (yL n v l) t ow' w'
theorem QH(a:Addr)(n:Nat)(hn:1<=n/\n<=16)(v:Int)(hv:known v=true)(l:List UInt8)(hl:l.length<=1200)(t:List Nat)(ht:t≠ [])(ow:Own)(w:World)(he:jA w a)(hge:ow 2=[]):
 Calls prog 38 #[.int .i64 (n:Nat),.int .i64 v,.string (bs l)] w (ZM n v l t ow w):=by
 have hnew:=zel a n hn v 262144 hv (by omega) (by omega) t ow w he;have hg0:zr v 0 0 (JZ n v 262144 (zp v)):=Xl hn (by omega) (by omega);have hlen:(XG l).length<=150:=by unfold XG;rw [ZJ];omega
 have hops:=λW=>zej l (by omega) W
 have hdn:=λB K ow W lv h1 h2 h3 h4 h5=>zjb (a:=a) (B:=B) (K:=K) (t:=t) (ow:=ow) (w:=W) hv ht hg0 (XG l) (by omega) (by omega) (zdu l) lv h1 h2 h3 h4 h5
 have hel:=he.lt;unfold zay at hnew;unfold ZM yL Y0;replace hnew:=G hnew;replace hops:=G hops;replace hdn:=G hdn;replace hg0:=G hg0;replace hlen:=G hlen
 go_enter func38,ntmps38
 go_wp2_with fail
 refine hnew.out.mono ?_;rintro e w1⟨B,K,ow1,rfl,hs1, -,hW1, -⟩;go_wp2_with fail
 refine(hops.out _).mono ?_;rintro e w2⟨lv,rfl,hrow,hb2,hlv⟩;have hs2:zq t ow1 w1 (ow1.cut w1) w2:=zq.wrap hb2 (zq.refl _ _ _);have he1:=he.step ht hs1 hge;have hge1:ow1 2=[]:=by rw [hs1.agree _ hel];exact hge
 have hd2:=hdn.out B K (ow1.cut w1) w2 lv hrow (λg hg=>Own.cut_new (hlv g hg)) ((zy.loc B K _ t).cut hW1 hb2) (he1.step ht hs2 hge1) (by rw [Own.cut_old (by have:=hs1.size;omega)];exact hge1);obtain⟨la,lc,rfl⟩:=hrow.wideV.shape;replace hd2:=G hd2;replace hrow:=G hrow;replace hlv:=G hlv;go_wp2_with fail
 refine hd2.out.mono ?_;rintro e w3⟨rfl,ow3,hs3,hW3⟩;go_wp2;go_ret3
 exact⟨B,K,ow3,rfl,(hs1.trans hs2).trans hs3,hW3⟩
def Vj(n:Nat)(v:Int)(l:List UInt8)(w:World)(e:Ending)(w':World):Prop:=
 ∃tv,e=.returned (.tuple #[.int .i64 (Y0 n v l:Nat),tv,.int .i64 0])/\Row w' 36 5 tv (yL n v l).trace.length ((yL n v l).trace.flatMap jr)/\Below w.heap.size w w'/\(∀g,tv.ownBlock=some g->w.heap.size<=g)
theorem zer(a:Addr)(n:Nat)(hn:1<=n/\n<=16)(v:Int)(hv:known v=true)(l:List UInt8)(hl:l.length<=1200)(w:World)(he:jA w a):
 Calls prog 21 #[.int .i64 (n:Nat),.int .i64 v,.string (bs l)] w (Vj n v l w):=by
 have hp:=QH a n hn v hv l hl [1] (by simp) (λ_=>[]) w he rfl;have htr:=(Zu (v:=v) hn hl).traceLe;unfold ZM at hp;unfold Vj;obtain⟨S,hS⟩:∃S,yL n v l=S:=⟨_,rfl⟩;rw [hS] at hp htr⊢;obtain⟨c,hc⟩:∃c,Y0 n v l=c:=⟨_,rfl⟩;rw [hc] at hp⊢;replace hp:=G hp
 go_enter func21,ntmps21
 go_wp2_with fail
 refine hp.out.mono ?_;rintro e w1⟨B,K,ow1,rfl,hs1,hW1⟩;have hb1:Below w.heap.size w w1:=hs1.below (N0 _) (λ_ _=>zi (by simp));obtain⟨tv1,lp1,hI1⟩:=hW1;have q1:=QC w1 hI1 (by omega);replace hI1:=G hI1;replace q1:=G q1;go_wp2_with fail
 refine q1.out.mono ?_;rintro e w2⟨tv,rfl,hrow,hb2,hg2⟩;obtain⟨ta,tc,rfl⟩:=hrow.wideV.shape;go_wp2;go_ret3
 exact⟨_,rfl,hrow,zf hb1 hb2,λg hg=>by have:=hg2 g hg;have:=hb1.size;omega⟩
def Vk(S:zj)(b:Bool)(w:World)(e:Ending)(w':World):Prop:=
 ∃mv,e=.returned (.tuple #[.bool b,mv,.int .i64 0])/\Row w' 34 3 mv (zt S 0).loc.log.length ((zt S 0).loc.log.flatMap zh)/\Below w.heap.size w w'
theorem zes(a:Addr)(n:Nat)(hn:1<=n/\n<=16)(v:Int)(hv:known v=true)(l:List UInt8)(hl:l.length<=1200){g:Nat}{S':zj}{b:Bool}(hF:Yc (zp v) 1000 g (yL n v l) S' b)(hg:g<=1000000)(w:World)(he:jA w a):
 Calls prog 23 #[.int .i64 (n:Nat),.int .i64 v,.string (bs l)] w (Vk S' b w):=by
 have hp:=QH a n hn v hv l hl [1] (by simp) (λ_=>[]) w he rfl;have hG:=Zu (v:=v) hn hl;have hG':=hF.good rfl hG (by omega);have hf:=λB K ow W (h:zeq [1] w B K (yL n v l) ow W)=>h.fair (by simp) he hG hv 1000 (by omega) hF (by omega) (by omega)
 unfold ZM at hp;unfold Vk;obtain⟨S,hS⟩:∃S,yL n v l=S:=⟨_,rfl⟩;rw [hS] at hp hf;obtain⟨c,hc⟩:∃c,Y0 n v l=c:=⟨_,rfl⟩;rw [hc] at hp;replace hp:=G hp;replace hf:=G hf;replace hF:=G hF;replace hG:=G hG;replace hG':=G hG';replace hS:=G hS;replace hc:=G hc
 go_enter func23,ntmps23
 go_wp2_with fail
 refine hp.out.mono ?_;rintro e w1⟨B,K,ow1,rfl,hs1,hW1⟩;have q1:=hf.out B K ow1 w1 ⟨hs1,hW1⟩;replace q1:=G q1;go_wp2_with fail
 refine q1.out.mono ?_;rintro e w2⟨rfl,ow2,h2⟩;have hn0:=hG'.out.n0;obtain⟨tv2,lp2,hI2⟩:=h2.is;obtain⟨b2,hnb,q2⟩:=zhG 0 (by omega) hn0.2 w2 hI2;replace hI2:=G hI2;replace h2:=G h2;replace hnb:=G hnb;replace q2:=G q2;replace hn0:=G hn0;go_wp2_with fail
 refine q2.out.mono ?_;rintro e w3⟨rfl,hs3,hI3⟩;have hg3:=(hG'.out.lent (i:=0) (by have:=hn0.out;omega)).node (i:=0) (by show 0<S'.nodes.length;have:=hn0.out;omega);obtain⟨b3,hnb3,px,sb,lb,pb,av,hN⟩:=hI3.node (by omega) hg3.1;obtain rfl:b3=b2:=by rw [hnb.out] at hnb3;exact(Option.some.inj hnb3).symm
 have hst3:=h2.out.st.trans hs3;have hb3:Below w.heap.size w w3:=hst3.below (N0 _) (λ_ _=>zi (by simp));have hlog:(zt (zj1 S' 0) 0).loc.log=(zt S' 0).loc.log:=rfl;have hfew:=(hG'.out.node (i:=0) (by have:=hn0.out;omega)).2.few;have q3:=Ys w3 hN.blk;have q4:=QR lb _ ([1] ++ [0] ++ [2]) _ w3 hN.lo (by rw [hlog];omega);rw [hlog] at q4;replace hN:=G hN;replace q4:=G q4;replace hI3:=G hI3;replace hfew:=G hfew;go_wp2_with fail
 refine q3.mono ?_;rintro e w4⟨rfl,hw4⟩;obtain rfl:=hw4.symm;go_wp2_with fail
 refine q4.out.mono ?_;rintro e w5⟨mv,rfl,hrow5,hb5, -⟩;obtain⟨ma,mc,rfl⟩:=hrow5.wideV.shape;go_wp2;go_ret3
 exact⟨_,rfl,hrow5,zf hb3 hb5⟩
end
open Go Go.RowKit Go.Shelf Go.Extern.Stop Go.Stop Go.Extern
attribute [local go_sem] Oper.semAt_some zw zn
def pS1:zj:=ZP (1,0,[]) (JZ 3 1 262144 (1,0,[])) (XG [1,2,0,0,97,98,99,100])
def pS2:zj:=((zf5 (1,0,[]) 200 1000 pS1).getD (pS1,false)).1
theorem pF2:zf5 (1,0,[]) 200 1000 pS1=some (pS2,true):=by kernel_rfl
theorem pF3:(zt pS2 0).loc.log=[((2,1),[97,98,99,100])]:=by kernel_rfl
theorem pF4:XG [1,2,0,0,97,98,99,100]=[⟨1,2,0,0,0,[97,98,99,100]⟩]:=by kernel_rfl
theorem zkG:((List.range 17).all λ(n:Nat)=>([1,2,3]:List Int).all λv=>qS (JZ n v 262144 (zp v)))=true:=by kernel_rfl
theorem zka(w:World):(binOp .eql 39 (.agg #[.int .i64 1,.int .i64 2,.int .i64 0,.int .i64 0,.int .u32 0,.string ⟨#[97,98,99,100]⟩]) (.agg #[.int .i64 1,.int .i64 2,.int .i64 0,.int .i64 0,.int .u32 0,.string ⟨#[97,98,99,100]⟩])).run prog w=.ok (.bool true) w:=by
 rw [run_eql_struct];simp [go_sem]
theorem XC(a:Addr)(w:World)(he:jA w a):Calls prog 19 #[] w λe w'=>e=.returned (.bool true)/\Below w.heap.size w w':=by
 obtain⟨f,hf,hF⟩:=zen _ _ _ _ _ _ pF2;have hF':Yc (zp 1) 1000 f (yL 3 1 [1,2,0,0,97,98,99,100]) pS2 true:=by unfold yL;rw [nB1];exact hF
 have q1:=λW=>zej [1,2,0,0,97,98,99,100] (by simp) W
 have q2:=λW hW=>zes a 3 (by omega) 1 (by decide) [1,2,0,0,97,98,99,100] (by simp) hF' (by omega) W hW
 have hno:zhS 0 1 2:=λW=>(zek 0 1 262144 (.inl (by omega)) W).mono (λe w' ⟨h1,h2⟩=>⟨h1,by rw [h2];exact N2 _ _⟩)
 have q3:=λW=>zdv (n:=0) (v:=1) (er:=2) rfl hno [] W
 have hos:=zka;rw [show bs [1,2,0,0,97,98,99,100]=⟨#[1,2,0,0,97,98,99,100]⟩from rfl] at q1 q2;rw [show bs []=⟨#[]⟩from rfl] at q3;rw [pF4] at q1;unfold Vk at q2;rw [pF3] at q2;have hel:=he.lt;replace q1:=G q1;replace q2:=G q2;replace q3:=G q3;replace hno:=G hno;replace hF:=G hF;replace hF':=G hF'
 go_enter func19,ntmps19
 go_wp2_with fail
 refine(q1.out _).mono ?_;rintro e w1⟨lv,rfl,hr1,hb1, -⟩;go_wp2_with fail
 refine(q2.out _ (he.below hb1 hel)).mono ?_;rintro e w2⟨mv,rfl,hr2,hb2⟩;go_wp2_with fail
 refine(q3.out _).mono ?_;rintro e w3⟨rfl,hb3⟩;have hr1':=hr1.below (zf hb2 hb3);have hr2':=hr2.below hb3;simp only [List.length_cons,List.length_nil,Nat.zero_add] at hr1' hr2'
 rcases hr1'.src.2 with⟨-,h⟩|⟨g1,o1,k1,rfl, -,hc1⟩
 ·cases h
 rcases hr2'.src.2 with⟨-,h⟩|⟨g2,o2,k2,rfl, -,hc2⟩
 ·cases h
 have c0:w3.cell? ⟨g1,o1,none⟩=some (.int .i64 1):=hc1 0 _ rfl;have c1:w3.cell? ⟨g1,o1+1,none⟩=some (.int .i64 2):=hc1 1 _ rfl;have c2:w3.cell? ⟨g1,o1+2,none⟩=some (.int .i64 0):=hc1 2 _ rfl;have c3:w3.cell? ⟨g1,o1+3,none⟩=some (.int .i64 0):=hc1 3 _ rfl;have c4:w3.cell? ⟨g1,o1+4,none⟩=some (.int .u32 0):=hc1 4 _ rfl;have c5:w3.cell? ⟨g1,o1+5,none⟩=some (.string ⟨#[97,98,99,100]⟩):=hc1 5 _ rfl;have d2:w3.cell? ⟨g2,o2+2,none⟩=some (.string ⟨#[97,98,99,100]⟩):=hc2 2 _ rfl;replace hr1:=G hr1;replace hr2:=G hr2;replace hr1':=G hr1';replace hr2':=G hr2';replace hc1:=G hc1;replace hc2:=G hc2;go_wp2;go_ret
 exact⟨rfl,zf hb1 (zf hb2 hb3)⟩
theorem Vd(a:Addr)(n v:Int)(w:World)(he:jA w a):Calls prog 7 #[.int .i64 n,.int .i64 v] w λe w'=>e=.returned (.bool true)/\Below w.heap.size w w':=by
 have hsh:=XC a w he;have hel:=he.lt;replace hsh:=G hsh
 by_cases hg:(1<=n/\n<=16)/\known v=true
 ·obtain⟨m,rfl⟩:∃m:Nat,n=m:=⟨n.toNat,by omega⟩
  have hm:1<=m/\m<=16:=by omega
  have hv:=hg.2;have hv3:1<=v/\v<=3:=by simpa [known] using hv
  have hr:=List.all_eq_true.1 zkG m (List.mem_range.2 (by omega));have hr2:qS (JZ m v 262144 (zp v))=true:=List.all_eq_true.1 hr v (by rcases(by omega:v=1∨v=2∨v=3)with rfl|rfl|rfl<;>simp);have hs:yL m v []=JZ m v 262144 (zp v):=rfl;have hF:Yc (zp v) 1000 0 (yL m v []) (yL m v []) true:=by rw [hs];exact .rests hr2
  have q1:=λW hW=>zer a m hm v hv [] (by simp) W hW
  have q2:=λW hW=>zes a m hm v hv [] (by simp) hF (by omega) W hW
  have t1:decide ((m:Int)<1)=false:=by simp;omega
  have t2:decide (16<(m:Int))=false:=by simp;omega
  have t3:decide (v<1)=false:=by simp;omega
  have t4:decide (3<v)=false:=by simp;omega
  unfold Vj at q1;unfold Vk at q2
  have hnd:(zt (yL m v []) 0).loc.log=[]:=by
   rw [hs];unfold zt JZ;simp only;rw [List.getElem?_map,List.getElem?_range (by omega)];rfl
  rw [hnd] at q2;rw [show(yL m v []).trace=[] from rfl,show Y0 m v []=0 from rfl] at q1;rw [show bs []=⟨#[]⟩from rfl] at q1 q2;replace q1:=G q1;replace q2:=G q2;replace hF:=G hF;clear hg hr hr2 hs hnd
  go_enter func7,ntmps7
  go_wp2_with fail
  refine hsh.out.mono ?_;rintro e w1⟨rfl,hb1⟩;have he1:=he.below hb1 hel;go_wp2_with fail
  refine(q1.out _ he1).mono ?_;rintro e w2⟨tv,rfl,hr2,hb2, -⟩;obtain⟨ta,tc,rfl⟩:=hr2.wideV.shape;go_wp2_with fail
  refine(q2.out _ (he1.below hb2 (by have:=hb1.size;omega))).mono ?_;rintro e w3⟨mv,rfl,hr3,hb3⟩;obtain⟨ma,mc,rfl⟩:=hr3.wideV.shape;go_wp2;go_ret
  exact⟨rfl,zf hb1 (zf hb2 hb3)⟩
 ·obtain⟨er,her,hno⟩:=zkF hg
  have q1:=λW=>zdv her hno [] W
  have q2:=λW=>zj9 her hno [] W
  have u1:(er !=0)=true:=by simpa [bne] using her
  have u2:(er==er)=true:=by simp
  rw [show bs []=⟨#[]⟩from rfl] at q1 q2;have hkn:known v=true↔1<=v/\v<=3:=by simp [known]
  rw [hkn] at hg;replace q1:=G q1;replace q2:=G q2;replace hno:=G hno;clear hkn
  by_cases h1:n<1
  ·have t1:decide (n<1)=true:=by simpa using h1
   go_enter func7,ntmps7
   go_wp2_with fail
   refine hsh.out.mono ?_;rintro e w1⟨rfl,hb1⟩;go_wp2_with fail
   refine(q1.out _).mono ?_;rintro e w2⟨rfl,hb2⟩;go_wp2_with fail
   refine(q2.out _).mono ?_;rintro e w3⟨rfl,hb3⟩;go_wp2;go_ret
   exact⟨rfl,zf hb1 (zf hb2 hb3)⟩
  ·have t1:decide (n<1)=false:=by simpa using h1
   by_cases h2:16<n
   ·have t2:decide (16<n)=true:=by simpa using h2
    go_enter func7,ntmps7
    go_wp2_with fail
    refine hsh.out.mono ?_;rintro e w1⟨rfl,hb1⟩;go_wp2_with fail
    refine(q1.out _).mono ?_;rintro e w2⟨rfl,hb2⟩;go_wp2_with fail
    refine(q2.out _).mono ?_;rintro e w3⟨rfl,hb3⟩;go_wp2;go_ret
    exact⟨rfl,zf hb1 (zf hb2 hb3)⟩
   ·have t2:decide (16<n)=false:=by simpa using h2
    by_cases h3:v<1
    ·have t3:decide (v<1)=true:=by simpa using h3
     go_enter func7,ntmps7
     go_wp2_with fail
     refine hsh.out.mono ?_;rintro e w1⟨rfl,hb1⟩;go_wp2_with fail
     refine(q1.out _).mono ?_;rintro e w2⟨rfl,hb2⟩;go_wp2_with fail
     refine(q2.out _).mono ?_;rintro e w3⟨rfl,hb3⟩;go_wp2;go_ret
     exact⟨rfl,zf hb1 (zf hb2 hb3)⟩
    ·have t3:decide (v<1)=false:=by simpa using h3
     have t4:decide (3<v)=true:=by simp;omega
     go_enter func7,ntmps7
     go_wp2_with fail
     refine hsh.out.mono ?_;rintro e w1⟨rfl,hb1⟩;go_wp2_with fail
     refine(q1.out _).mono ?_;rintro e w2⟨rfl,hb2⟩;go_wp2_with fail
     refine(q2.out _).mono ?_;rintro e w3⟨rfl,hb3⟩;go_wp2;go_ret
     exact⟨rfl,zf hb1 (zf hb2 hb3)⟩
