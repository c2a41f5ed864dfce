/- PARTS OF THE PROOF. -/
import Derived.Test.YtobnhnidffipjaaGreatDoorK49
set_option maxRecDepth 8000
set_option maxHeartbeats 4000000
open Go.Proofs.Tryz
namespace Go.Proofs.YtobnhnidffipjaaGreatDoor
open Go Go.RowKit Go.Shelf Go.Extern.Stop Go.Stop Go.Extern
attribute [local go_sem] Oper.semAt_some zw zm
def yW(o:OpD):OpD:={o with s:=o.s.take 50}
theorem zb2(o:OpD)(w:World):Calls prog 15 #[opV o] w λe w'=>e=.returned (opV (yW o))/\Below w.heap.size w w':=by
 obtain⟨kd,nd,x,y,m,s⟩:=o;unfold opV yW;simp only;have hex:=yQ s;have hds:=zJ s;replace hex:=G hex;replace hds:=G hds
 go_enter func15,ntmps15
 go_wp2
 have hst:(bs s).extract 0 (min ((bs s).size:Int) 50).toNat=bs (s.take 50):=by
  rw [hex.out,hds.out]
  congr 1
  rcases Nat.lt_or_ge s.length 50 with h|h
  ·rw [show(min (s.length:Int) 50).toNat=s.length by omega,List.take_of_length_le (N0 _),List.take_of_length_le (by omega)]
  ·rw [show(min (s.length:Int) 50).toNat=50 by omega]
 rw [hst];exact bodyPost_ret (v:=.agg #[.int .i64 kd,.int .i64 nd,.int .i64 x,.int .i64 y,.int .u32 (m:Nat),.string (bs (s.take 50))]) (by simp [results,Tryz.results15,go_sem]) rfl ⟨rfl,pbx⟩
theorem zhJ(k:Int)(w:World):Calls prog 16 #[.int .i64 k] w λe w'=>e=.returned (.bool (decide (1<=k)&& decide (k<=10)))/\w'=w:=by
 cases h0:decide (1<=k)
 ·go_enter func16,ntmps16
  go_wp2;go_ret
  exact⟨rfl,rfl⟩
 ·cases h1:decide (k<=10)
  ·go_enter func16,ntmps16
   go_wp2;go_ret
   exact⟨rfl,rfl⟩
  ·go_enter func16,ntmps16
   go_wp2;go_ret
   exact⟨rfl,rfl⟩
theorem zdp(k:Int)(w:World):Calls prog 17 #[.int .i64 k] w λe w'=>e=.returned (.bool (decide (3<=k)&& decide (k<=6)))/\w'=w:=by
 cases h0:decide (3<=k)
 ·go_enter func17,ntmps17
  go_wp2;go_ret
  exact⟨rfl,rfl⟩
 ·cases h1:decide (k<=6)
  ·go_enter func17,ntmps17
   go_wp2;go_ret
   exact⟨rfl,rfl⟩
  ·go_enter func17,ntmps17
   go_wp2;go_ret
   exact⟨rfl,rfl⟩
theorem YF(a:Addr)(o:OpD)(hm:o.mask<4294967296)(hy:o.b<9223372036854775808)(w:World)(he:jz w a):Calls prog 4 #[opV o] w λe w'=>e=.returned (.bool true)/\Below w.heap.size w w':=by
 obtain⟨kd,nd,x,y,m,str⟩:=o;simp only at hm hy;have hsh:=λW hW=>Jp a W hW
 have hel:=he.lt;have hnew:=λW hW=>Vj a 2 (by omega) 1 65536 (by decide) (by omega) (by omega) [1] (λ_=>[]) W hW
 have hcut:=λW=>zb2 ⟨kd,nd,x,y,m,str⟩ W
 have hdn:=λW=>ziP ⟨kd,nd,x,y,m,str⟩ W
 have hkd:=λW=>zhJ kd W
 have hfl:=λW=>zdp kd W
 have hok:zhx (yW ⟨kd,nd,x,y,m,str⟩):=⟨by show(str.take 50).length<=300;rw [N7];omega,hm,hy⟩;have hg0:zr 1 0 0 (vU 2 1 65536 (zo 1)):=Zs (by omega) (by omega) (by omega);have hlen:=zjb (zo 1) (vU 2 1 65536 (zo 1)) (yW ⟨kd,nd,x,y,m,str⟩);rw [show(vU 2 1 65536 (zo 1)).nodes.length=2 from rfl] at hlen
 have hbad:(kd<1∨10<kd)∨(¬(3<=kd/\kd<=6)/\(nd<0∨1<nd))->doW (zo 1) (vU 2 1 65536 (zo 1)) (yW ⟨kd,nd,x,y,m,str⟩)=(vU 2 1 65536 (zo 1),180):=λh=>by
  unfold doW
  by_cases h1:kd<1∨10<kd
  ·exact if_pos h1
  ·have h2:¬(3<=kd/\kd<=6)/\(nd<0∨((vU 2 1 65536 (zo 1)).nodes.length:Int)<=nd):=by
    rw [show(vU 2 1 65536 (zo 1)).nodes.length=2 from rfl]
    rcases h with h|h
    ·exact absurd h h1
    ·exact⟨h.1,by omega⟩
   exact(if_neg h1).trans (if_pos h2)
 have hb0:Below w.heap.size w (w.alloc (.cells #[.int .i64 kd,.int .i64 nd,.int .i64 x,.int .i64 y,.int .u32 (m:Nat),.string (bs str)] 39)):=zg (N2 _ _) _;have kO:Blk (w.alloc (.cells #[.int .i64 kd,.int .i64 nd,.int .i64 x,.int .i64 y,.int .u32 (m:Nat),.string (bs str)] 39)) w.heap.size #[.int .i64 kd,.int .i64 nd,.int .i64 x,.int .i64 y,.int .u32 (m:Nat),.string (bs str)] 39:=Blk.new rfl;obtain⟨⟨S1,er⟩,hdw⟩:∃q,doW (zo 1) (vU 2 1 65536 (zo 1)) (yW ⟨kd,nd,x,y,m,str⟩)=q:=⟨_,rfl⟩;rw [hdw] at hbad hlen;simp only at hlen;unfold opV yW at hcut;unfold opV at hdn;unfold opV;simp only at hcut hdn⊢;replace hsh:=G hsh;replace hnew:=G hnew;replace hcut:=G hcut;replace hdn:=G hdn;replace hok:=G hok;replace hg0:=G hg0
 by_cases h1:kd<1∨10<kd
 ·obtain⟨rfl,rfl⟩:=Prod.mk.inj (hbad (.inl h1))
  simp only [show(decide (1<=kd)&& decide (kd<=10))=false by simp;omega] at hkd;obtain⟨fb,hfb⟩:∃b,(decide (3<=kd)&& decide (kd<=6))=b:=⟨_,rfl⟩;simp only [hfb] at hfl;replace hfb:=G hfb;replace hkd:=G hkd;replace hfl:=G hfl;replace hlen:=G hlen;replace hdw:=G hdw;clear hbad h1
  go_enter func4,ntmps4
  go_wp2_with fail
  refine(hsh.out _ (he.below hb0 hel)).mono ?_;rintro e w1⟨rfl,hb1⟩;go_wp2_with fail
  refine(qG 1 _).mono ?_;rintro e w2⟨rfl,hb2⟩;have hb12:=ze hb1 hb2;have hbB:=ze hb0 hb12;have heB:=he.below hbB hel;have kB:=kO.call hb12;go_wp2_with fail
  refine(hnew.out _ heB).mono ?_;rintro e w3⟨B,K,ow3,rfl,hs3, -,hW3, -⟩;have h3:zaq [1] w2 B K (vU 2 1 65536 (zo 1)) ow3 w3:=⟨hs3,hW3⟩;have c3:=(kB.call (h3.bel (by simp))).cell;clear hs3 hW3;go_wp2_with fail
  refine(hcut.out _).mono ?_;rintro e w4⟨rfl,hb4⟩;have h4:=h3.below hb4;have q4:=h4.does (by simp) heB hg0.out (by omega) (by omega) (by decide) (yW ⟨kd,nd,x,y,m,str⟩) hok.out;rw [hdw.out] at q4;unfold opV yW at q4;simp only at q4;clear c3 h3 h4;go_wp2_with fail
  refine q4.mono ?_;rintro e w5⟨rfl,ow5,h5⟩;have c5:=(kB.call (h5.bel (by simp))).cell;have hb5:=h5.bel (by simp);obtain⟨tv5,lp5,hI5⟩:=h5.is;replace hI5:=G hI5;replace h5:=G h5;clear q4;go_wp2_with fail
  refine(hkd.out _).mono ?_;rintro e w6⟨rfl,hw6⟩;obtain rfl:=hw6.symm;go_wp2_with fail
  refine(hfl.out _).mono ?_;rintro e w6⟨rfl,hw6⟩;obtain rfl:=hw6.symm;have qt:=xg _ hI5.out (show(vU 2 1 65536 (zo 1)).trace.length<=1073741824 from Nat.zero_le _);rw [show(vU 2 1 65536 (zo 1)).trace.length=0 from rfl] at qt;replace qt:=G qt;go_wp2_with fail
  refine qt.out.mono ?_;rintro e w6⟨tv6,rfl,hrow6,hb6, -⟩;obtain⟨ta,tc,rfl⟩:=hrow6.wideV.shape;have hI6:=(zh.loc _ _ _ _ _ _).below hI5.out hb6;have c6:=((kB.call hb5).call hb6).cell;have qf:=yk _ hI6 (show(vU 2 1 65536 (zo 1)).notes.length<=1000 from Nat.zero_le _);rw [show(vU 2 1 65536 (zo 1)).notes.length=0 from rfl] at qf;replace qf:=G qf;replace hI6:=G hI6;clear c5;go_wp2_with fail
  refine qf.out.mono ?_;rintro e w7⟨rfl,hb7⟩;have hb57:=ze hb6 hb7;clear c6;have hI7:=(zh.loc _ _ _ _ _ _).below hI5.out hb57;have qa:=Zy (-1) (.inl (by omega)) hI7;replace hI7:=G hI7;replace qa:=G qa;go_wp2_with fail
  refine qa.out.mono ?_;rintro e w8⟨rfl,hb8⟩;have hb58:=ze hb57 hb8;have c8:=((kB.call hb5).call hb58).cell;go_wp2_with fail
  refine(hdn.out _).mono ?_;rintro e w9⟨rfl,hb9⟩;go_wp2_with fail
  refine(x7 _).mono ?_;rintro e w10⟨rfl,hw10⟩;obtain rfl:=hw10.symm;go_wp2_with fail
  refine(qE 0 _).mono ?_;rintro e w10⟨rfl,hw10⟩;obtain rfl:=hw10.symm;go_wp2_with fail
  refine(xm _).mono ?_;rintro e w10⟨rfl,hw10⟩;obtain rfl:=hw10.symm;have hb59:=ze hb58 hb9;have hI9:=(zh.loc _ _ _ _ _ _).below hI5.out hb59;have qn:=Zw 2 (.inr (by rw [hlen.out];omega)) _ hI9;replace hI9:=G hI9;replace qn:=G qn;go_wp2_with fail
  refine qn.out.mono ?_;rintro e w10⟨rfl,hw10⟩;obtain rfl:=hw10.symm;go_wp2;go_ret
  exact⟨rfl,ze hbB (ze hb5 hb59)⟩
 ·simp only [show(decide (1<=kd)&& decide (kd<=10))=true by simp;omega] at hkd
  replace hkd:=G hkd
  by_cases h2:3<=kd/\kd<=6
  ·simp only [show(decide (3<=kd)&& decide (kd<=6))=true by simp;omega] at hfl
   replace hfl:=G hfl;replace hlen:=G hlen;replace hdw:=G hdw;clear hbad h1 h2
   go_enter func4,ntmps4
   go_wp2_with fail
   refine(hsh.out _ (he.below hb0 hel)).mono ?_;rintro e w1⟨rfl,hb1⟩;go_wp2_with fail
   refine(qG 1 _).mono ?_;rintro e w2⟨rfl,hb2⟩;have hb12:=ze hb1 hb2;have hbB:=ze hb0 hb12;have heB:=he.below hbB hel;have kB:=kO.call hb12;go_wp2_with fail
   refine(hnew.out _ heB).mono ?_;rintro e w3⟨B,K,ow3,rfl,hs3, -,hW3, -⟩;have h3:zaq [1] w2 B K (vU 2 1 65536 (zo 1)) ow3 w3:=⟨hs3,hW3⟩;have c3:=(kB.call (h3.bel (by simp))).cell;clear hs3 hW3;go_wp2_with fail
   refine(hcut.out _).mono ?_;rintro e w4⟨rfl,hb4⟩;have h4:=h3.below hb4;have q4:=h4.does (by simp) heB hg0.out (by omega) (by omega) (by decide) (yW ⟨kd,nd,x,y,m,str⟩) hok.out;rw [hdw.out] at q4;unfold opV yW at q4;simp only at q4;clear c3 h3 h4;go_wp2_with fail
   refine q4.mono ?_;rintro e w5⟨rfl,ow5,h5⟩;have c5:=(kB.call (h5.bel (by simp))).cell;have hb5:=h5.bel (by simp);obtain⟨tv5,lp5,hI5⟩:=h5.is;replace hI5:=G hI5;replace h5:=G h5;clear q4;go_wp2_with fail
   refine(hkd.out _).mono ?_;rintro e w6⟨rfl,hw6⟩;obtain rfl:=hw6.symm;go_wp2_with fail
   refine(hfl.out _).mono ?_;rintro e w6⟨rfl,hw6⟩;obtain rfl:=hw6.symm;have hb57:=N2 w5.heap.size w5;clear c5;have hI7:=(zh.loc _ _ _ _ _ _).below hI5.out hb57;have qa:=Zy (-1) (.inl (by omega)) hI7;replace hI7:=G hI7;replace qa:=G qa;go_wp2_with fail
   refine qa.out.mono ?_;rintro e w8⟨rfl,hb8⟩;have hb58:=ze hb57 hb8;have c8:=((kB.call hb5).call hb58).cell;go_wp2_with fail
   refine(hdn.out _).mono ?_;rintro e w9⟨rfl,hb9⟩;go_wp2_with fail
   refine(x7 _).mono ?_;rintro e w10⟨rfl,hw10⟩;obtain rfl:=hw10.symm;go_wp2_with fail
   refine(qE 0 _).mono ?_;rintro e w10⟨rfl,hw10⟩;obtain rfl:=hw10.symm;go_wp2_with fail
   refine(xm _).mono ?_;rintro e w10⟨rfl,hw10⟩;obtain rfl:=hw10.symm;have hb59:=ze hb58 hb9;have hI9:=(zh.loc _ _ _ _ _ _).below hI5.out hb59;have qn:=Zw 2 (.inr (by rw [hlen.out];omega)) _ hI9;replace hI9:=G hI9;replace qn:=G qn;go_wp2_with fail
   refine qn.out.mono ?_;rintro e w10⟨rfl,hw10⟩;obtain rfl:=hw10.symm;go_wp2;go_ret
   exact⟨rfl,ze hbB (ze hb5 hb59)⟩
  ·simp only [show(decide (3<=kd)&& decide (kd<=6))=false by simp;omega] at hfl
   replace hfl:=G hfl
   by_cases h3:nd<0
   ·obtain⟨rfl,rfl⟩:=Prod.mk.inj (hbad (.inr ⟨h2,.inl h3⟩))
    have t1:decide (nd<0)=true:=by simpa using h3
    replace hlen:=G hlen;replace hdw:=G hdw;clear hbad h1 h2 h3
    go_enter func4,ntmps4
    go_wp2_with fail
    refine(hsh.out _ (he.below hb0 hel)).mono ?_;rintro e w1⟨rfl,hb1⟩;go_wp2_with fail
    refine(qG 1 _).mono ?_;rintro e w2⟨rfl,hb2⟩;have hb12:=ze hb1 hb2;have hbB:=ze hb0 hb12;have heB:=he.below hbB hel;have kB:=kO.call hb12;go_wp2_with fail
    refine(hnew.out _ heB).mono ?_;rintro e w3⟨B,K,ow3,rfl,hs3, -,hW3, -⟩;have h3:zaq [1] w2 B K (vU 2 1 65536 (zo 1)) ow3 w3:=⟨hs3,hW3⟩;have c3:=(kB.call (h3.bel (by simp))).cell;clear hs3 hW3;go_wp2_with fail
    refine(hcut.out _).mono ?_;rintro e w4⟨rfl,hb4⟩;have h4:=h3.below hb4;have q4:=h4.does (by simp) heB hg0.out (by omega) (by omega) (by decide) (yW ⟨kd,nd,x,y,m,str⟩) hok.out;rw [hdw.out] at q4;unfold opV yW at q4;simp only at q4;clear c3 h3 h4;go_wp2_with fail
    refine q4.mono ?_;rintro e w5⟨rfl,ow5,h5⟩;have c5:=(kB.call (h5.bel (by simp))).cell;have hb5:=h5.bel (by simp);obtain⟨tv5,lp5,hI5⟩:=h5.is;replace hI5:=G hI5;replace h5:=G h5;clear q4;go_wp2_with fail
    refine(hkd.out _).mono ?_;rintro e w6⟨rfl,hw6⟩;obtain rfl:=hw6.symm;go_wp2_with fail
    refine(hfl.out _).mono ?_;rintro e w6⟨rfl,hw6⟩;obtain rfl:=hw6.symm;have qt:=xg _ hI5.out (show(vU 2 1 65536 (zo 1)).trace.length<=1073741824 from Nat.zero_le _);rw [show(vU 2 1 65536 (zo 1)).trace.length=0 from rfl] at qt;replace qt:=G qt;go_wp2_with fail
    refine qt.out.mono ?_;rintro e w6⟨tv6,rfl,hrow6,hb6, -⟩;obtain⟨ta,tc,rfl⟩:=hrow6.wideV.shape;have hI6:=(zh.loc _ _ _ _ _ _).below hI5.out hb6;have c6:=((kB.call hb5).call hb6).cell;have qf:=yk _ hI6 (show(vU 2 1 65536 (zo 1)).notes.length<=1000 from Nat.zero_le _);rw [show(vU 2 1 65536 (zo 1)).notes.length=0 from rfl] at qf;replace qf:=G qf;replace hI6:=G hI6;clear c5;go_wp2_with fail
    refine qf.out.mono ?_;rintro e w7⟨rfl,hb7⟩;have hb57:=ze hb6 hb7;clear c6;have hI7:=(zh.loc _ _ _ _ _ _).below hI5.out hb57;have qa:=Zy (-1) (.inl (by omega)) hI7;replace hI7:=G hI7;replace qa:=G qa;go_wp2_with fail
    refine qa.out.mono ?_;rintro e w8⟨rfl,hb8⟩;have hb58:=ze hb57 hb8;have c8:=((kB.call hb5).call hb58).cell;go_wp2_with fail
    refine(hdn.out _).mono ?_;rintro e w9⟨rfl,hb9⟩;go_wp2_with fail
    refine(x7 _).mono ?_;rintro e w10⟨rfl,hw10⟩;obtain rfl:=hw10.symm;go_wp2_with fail
    refine(qE 0 _).mono ?_;rintro e w10⟨rfl,hw10⟩;obtain rfl:=hw10.symm;go_wp2_with fail
    refine(xm _).mono ?_;rintro e w10⟨rfl,hw10⟩;obtain rfl:=hw10.symm;have hb59:=ze hb58 hb9;have hI9:=(zh.loc _ _ _ _ _ _).below hI5.out hb59;have qn:=Zw 2 (.inr (by rw [hlen.out];omega)) _ hI9;replace hI9:=G hI9;replace qn:=G qn;go_wp2_with fail
    refine qn.out.mono ?_;rintro e w10⟨rfl,hw10⟩;obtain rfl:=hw10.symm;go_wp2;go_ret
    exact⟨rfl,ze hbB (ze hb5 hb59)⟩
   ·have t1:decide (nd<0)=false:=by simpa using h3
    by_cases h4:1<nd
    ·obtain⟨rfl,rfl⟩:=Prod.mk.inj (hbad (.inr ⟨h2,.inr h4⟩))
     have t2:decide (1<nd)=true:=by simpa using h4
     replace hlen:=G hlen;replace hdw:=G hdw;clear hbad h1 h2 h3 h4
     go_enter func4,ntmps4
     go_wp2_with fail
     refine(hsh.out _ (he.below hb0 hel)).mono ?_;rintro e w1⟨rfl,hb1⟩;go_wp2_with fail
     refine(qG 1 _).mono ?_;rintro e w2⟨rfl,hb2⟩;have hb12:=ze hb1 hb2;have hbB:=ze hb0 hb12;have heB:=he.below hbB hel;have kB:=kO.call hb12;go_wp2_with fail
     refine(hnew.out _ heB).mono ?_;rintro e w3⟨B,K,ow3,rfl,hs3, -,hW3, -⟩;have h3:zaq [1] w2 B K (vU 2 1 65536 (zo 1)) ow3 w3:=⟨hs3,hW3⟩;have c3:=(kB.call (h3.bel (by simp))).cell;clear hs3 hW3;go_wp2_with fail
     refine(hcut.out _).mono ?_;rintro e w4⟨rfl,hb4⟩;have h4:=h3.below hb4;have q4:=h4.does (by simp) heB hg0.out (by omega) (by omega) (by decide) (yW ⟨kd,nd,x,y,m,str⟩) hok.out;rw [hdw.out] at q4;unfold opV yW at q4;simp only at q4;clear c3 h3 h4;go_wp2_with fail
     refine q4.mono ?_;rintro e w5⟨rfl,ow5,h5⟩;have c5:=(kB.call (h5.bel (by simp))).cell;have hb5:=h5.bel (by simp);obtain⟨tv5,lp5,hI5⟩:=h5.is;replace hI5:=G hI5;replace h5:=G h5;clear q4;go_wp2_with fail
     refine(hkd.out _).mono ?_;rintro e w6⟨rfl,hw6⟩;obtain rfl:=hw6.symm;go_wp2_with fail
     refine(hfl.out _).mono ?_;rintro e w6⟨rfl,hw6⟩;obtain rfl:=hw6.symm;have qt:=xg _ hI5.out (show(vU 2 1 65536 (zo 1)).trace.length<=1073741824 from Nat.zero_le _);rw [show(vU 2 1 65536 (zo 1)).trace.length=0 from rfl] at qt;replace qt:=G qt;go_wp2_with fail
     refine qt.out.mono ?_;rintro e w6⟨tv6,rfl,hrow6,hb6, -⟩;obtain⟨ta,tc,rfl⟩:=hrow6.wideV.shape;have hI6:=(zh.loc _ _ _ _ _ _).below hI5.out hb6;have c6:=((kB.call hb5).call hb6).cell;have qf:=yk _ hI6 (show(vU 2 1 65536 (zo 1)).notes.length<=1000 from Nat.zero_le _);rw [show(vU 2 1 65536 (zo 1)).notes.length=0 from rfl] at qf;replace qf:=G qf;replace hI6:=G hI6;clear c5;go_wp2_with fail
     refine qf.out.mono ?_;rintro e w7⟨rfl,hb7⟩;have hb57:=ze hb6 hb7;clear c6;have hI7:=(zh.loc _ _ _ _ _ _).below hI5.out hb57;have qa:=Zy (-1) (.inl (by omega)) hI7;replace hI7:=G hI7;replace qa:=G qa;go_wp2_with fail
     refine qa.out.mono ?_;rintro e w8⟨rfl,hb8⟩;have hb58:=ze hb57 hb8;have c8:=((kB.call hb5).call hb58).cell;go_wp2_with fail
     refine(hdn.out _).mono ?_;rintro e w9⟨rfl,hb9⟩;go_wp2_with fail
     refine(x7 _).mono ?_;rintro e w10⟨rfl,hw10⟩;obtain rfl:=hw10.symm;go_wp2_with fail
     refine(qE 0 _).mono ?_;rintro e w10⟨rfl,hw10⟩;obtain rfl:=hw10.symm;go_wp2_with fail
     refine(xm _).mono ?_;rintro e w10⟨rfl,hw10⟩;obtain rfl:=hw10.symm;have hb59:=ze hb58 hb9;have hI9:=(zh.loc _ _ _ _ _ _).below hI5.out hb59;have qn:=Zw 2 (.inr (by rw [hlen.out];omega)) _ hI9;replace hI9:=G hI9;replace qn:=G qn;go_wp2_with fail
     refine qn.out.mono ?_;rintro e w10⟨rfl,hw10⟩;obtain rfl:=hw10.symm;go_wp2;go_ret
     exact⟨rfl,ze hbB (ze hb5 hb59)⟩
    ·have t2:decide (1<nd)=false:=by simpa using h4
     replace hlen:=G hlen;replace hdw:=G hdw;clear hbad h1 h2 h3 h4
     go_enter func4,ntmps4
     go_wp2_with fail
     refine(hsh.out _ (he.below hb0 hel)).mono ?_;rintro e w1⟨rfl,hb1⟩;go_wp2_with fail
     refine(qG 1 _).mono ?_;rintro e w2⟨rfl,hb2⟩;have hb12:=ze hb1 hb2;have hbB:=ze hb0 hb12;have heB:=he.below hbB hel;have kB:=kO.call hb12;go_wp2_with fail
     refine(hnew.out _ heB).mono ?_;rintro e w3⟨B,K,ow3,rfl,hs3, -,hW3, -⟩;have h3:zaq [1] w2 B K (vU 2 1 65536 (zo 1)) ow3 w3:=⟨hs3,hW3⟩;have c3:=(kB.call (h3.bel (by simp))).cell;clear hs3 hW3;go_wp2_with fail
     refine(hcut.out _).mono ?_;rintro e w4⟨rfl,hb4⟩;have h4:=h3.below hb4;have q4:=h4.does (by simp) heB hg0.out (by omega) (by omega) (by decide) (yW ⟨kd,nd,x,y,m,str⟩) hok.out;rw [hdw.out] at q4;unfold opV yW at q4;simp only at q4;clear c3 h3 h4;go_wp2_with fail
     refine q4.mono ?_;rintro e w5⟨rfl,ow5,h5⟩;have c5:=(kB.call (h5.bel (by simp))).cell;have hb5:=h5.bel (by simp);obtain⟨tv5,lp5,hI5⟩:=h5.is;replace hI5:=G hI5;replace h5:=G h5;clear q4;go_wp2_with fail
     refine(hkd.out _).mono ?_;rintro e w6⟨rfl,hw6⟩;obtain rfl:=hw6.symm;go_wp2_with fail
     refine(hfl.out _).mono ?_;rintro e w6⟨rfl,hw6⟩;obtain rfl:=hw6.symm;have hb57:=N2 w5.heap.size w5;have hI7:=(zh.loc _ _ _ _ _ _).below hI5.out hb57;have qa:=Zy (-1) (.inl (by omega)) hI7;replace hI7:=G hI7;replace qa:=G qa;go_wp2_with fail
     refine qa.out.mono ?_;rintro e w8⟨rfl,hb8⟩;have hb58:=ze hb57 hb8;have c8:=((kB.call hb5).call hb58).cell;go_wp2_with fail
     refine(hdn.out _).mono ?_;rintro e w9⟨rfl,hb9⟩;go_wp2_with fail
     refine(x7 _).mono ?_;rintro e w10⟨rfl,hw10⟩;obtain rfl:=hw10.symm;go_wp2_with fail
     refine(qE 0 _).mono ?_;rintro e w10⟨rfl,hw10⟩;obtain rfl:=hw10.symm;go_wp2_with fail
     refine(xm _).mono ?_;rintro e w10⟨rfl,hw10⟩;obtain rfl:=hw10.symm;have hb59:=ze hb58 hb9;have hI9:=(zh.loc _ _ _ _ _ _).below hI5.out hb59;have qn:=Zw 2 (.inr (by rw [hlen.out];omega)) _ hI9;replace hI9:=G hI9;replace qn:=G qn;go_wp2_with fail
     refine qn.out.mono ?_;rintro e w10⟨rfl,hw10⟩;obtain rfl:=hw10.symm;go_wp2;go_ret
     exact⟨rfl,ze hbB (ze hb5 hb59)⟩
