/- PARTS OF THE PROOF. -/
import Derived.Test.YtofppfoioodblaaGreatDoorTT20
set_option maxRecDepth 8000
set_option maxHeartbeats 4000000
open Go.Proofs.Tryz
namespace Go.Proofs.YtofppfoioodblaaGreatDoor
open Go Go.RowKit Go.Shelf Go.Extern.Stop Go.Stop Go.Extern
attribute [local go_sem] Oper.semAt_some zv zm
theorem V6(a b:Nat)(ha:a<18446744073709551616)(hb:b<18446744073709551616):bits .or .u64 (a:Int) (b:Int)=((a|||b:Nat):Int):=by
 have hx:a|||b<2 ^ 64:=Nat.or_lt_two_pow (by omega) (by omega)
 have h1:(BitVec.ofInt 64 (a:Int)).toNat=a:=by
  rw [BitVec.ofInt_natCast,BitVec.toNat_ofNat];exact Nat.mod_eq_of_lt (by omega)
 have h2:(BitVec.ofInt 64 (b:Int)).toNat=b:=by
  rw [BitVec.ofInt_natCast,BitVec.toNat_ofNat];exact Nat.mod_eq_of_lt (by omega)
 show IntKind.u64.wrap ((BitVec.ofInt 64 (a:Int)|||BitVec.ofInt 64 (b:Int)).toNat:Int)=_
 rw [BitVec.toNat_or,h1,h2,IntKind.wrap_u64];omega
theorem vW(d:List UInt8):yn d<4294967296:=by
 unfold yn
 split
 ·rename_i h
  have:=zcC d;rw [h] at this;exact Nat.lt_of_lt_of_le this (by decide)
 ·omega
theorem vK {d:List UInt8}(h:d.length=4):zjZ d=.tuple #[.int .u32 (yn d:Nat),.int .i64 0]:=by unfold zjZ;rw [if_pos h]
theorem zc2(h l:Nat)(hh:h<4294967296)(hl:l<4294967296):bits .or .u64 (IntKind.u64.wrap ((h:Int)*4294967296)) (l:Int)=((l+4294967296*h:Nat):Int):=by
 have h3:IntKind.u64.wrap ((h:Int)*4294967296)=((h*4294967296:Nat):Int):=by rw [IntKind.wrap_u64];omega
 have h4:=Nat.two_pow_add_eq_or_of_lt (i:=32) hl h;rw [h3,V6 _ _ (by omega) (by omega)];rw [show h*4294967296=2 ^ 32*h by omega,← h4];omega
theorem zea(h l:Nat)(hh:h<4294967296)(hl:l<4294967296):bits .or .u64 ((h:Int)*4294967296) (l:Int)=((l+4294967296*h:Nat):Int):=by
 have h3:IntKind.u64.wrap ((h:Int)*4294967296)=(h:Int)*4294967296:=by rw [IntKind.wrap_u64];omega
 rw [← h3];exact zc2 h l hh hl
theorem Qj(s:List UInt8)(hs:s.length=8)(w:World):Calls prog 260 #[.string (bs s)] w λe w'=>e=.returned (.int .u64 (yn (s.take 4)+4294967296*yn (s.drop 4):Nat))/\Below w.heap.size w w':=by
 have hsz:=zJ s;have hx0:=vA s 4;have hx1:=jk s 4;have hl1:(s.take 4).length=4:=by rw [N7];omega
 have hl2:(s.drop 4).length=4:=by rw [U3];omega
 have g1:=λW=>xQ (s.take 4) (by omega) W
 have g2:=λW=>xQ (s.drop 4) (by omega) W
 rw [vK hl1] at g1;rw [vK hl2] at g2;have hb1:=vW (s.take 4);have hb2:=vW (s.drop 4)
 generalize s.take 4=d1 at*
 generalize s.drop 4=d2 at*
 generalize yn d1=n1 at*
 generalize yn d2=n2 at*
 have hor:=zc2 n2 n1 hb2 hb1;have hor2:=zea n2 n1 hb2 hb1;replace hor2:=hid hor2;have hw1:IntKind.u64.wrap (n2:Int)=(n2:Int):=by rw [IntKind.wrap_u64];omega
 have hw2:IntKind.u64.wrap (n1:Int)=(n1:Int):=by rw [IntKind.wrap_u64];omega
 have y1:(4:Int)<=((bs s).size:Int):=by omega
 replace hsz:=hid hsz;replace g1:=hid g1;replace g2:=hid g2
 go_enter func260,ntmps260
 go_wp2_with fail
 refine(g1.out _).mono ?_;rintro e w1⟨rfl,hc1⟩;go_wp2_with fail
 refine(g2.out _).mono ?_;rintro e w2⟨rfl,hc2⟩;go_wp2;go_ret
 exact⟨by rw [← hor2.out];rfl,zg hc1 hc2⟩
def Z2(r:Option (UInt8×Int×Nat×List UInt8))(w:World)(e:Ending)(w':World):Prop:=
 ∃a b c d,e=.returned (.tuple #[.agg #[.int .u8 a,.int .i64 b,.int .u64 c,.string d],.bool r.isSome])/\(∀k i n x,r=some (k,i,n,x)->a=k.toNat/\b=i/\c=n/\d=bs x)/\Below w.heap.size w w'
theorem JF(s:List UInt8):((s.drop 5).take 8).take 4=(s.drop 5).take 4/\((s.drop 5).take 8).drop 4=(s.drop 9).take 4:=by
 constructor
 ·rw [List.take_take];rfl
 ·rw [List.drop_take,List.drop_drop]
theorem zfg(s:List UInt8)(hl:s.length<=1073741824)(w:World):Calls prog 212 #[.string (bs s)] w (Z2 (jF s) w):=by
 have hsz:=zJ s
 by_cases h5:s.length<5
 ·have hr:jF s=none:=by unfold jF;rw [if_pos h5]
  rw [hr];have t0:decide (((bs s).size:Int)<5)=true:=by rw [hsz];simp;omega
  replace hsz:=hid hsz;replace hr:=hid hr
  go_enter func212,ntmps212
  go_wp2;exact bodyPost_ret (v:=.tuple #[.agg #[.int .u8 0,.int .i64 0,.int .u64 0,.string ⟨#[]⟩],.bool false]) (by simp [results,Tryz.results212,go_sem]) rfl ⟨0,0,0,⟨#[]⟩,rfl,by simp,pbx⟩
 have t0:decide (((bs s).size:Int)<5)=false:=by rw [hsz];simp;omega
 have b5:(5:Int)<=((bs s).size:Int):=by omega
 have hks:0<(bs s).size:=by omega
 obtain⟨x,hx⟩:∃x,(bs s)[0]=x:=⟨_,rfl⟩
 have hhd:s.head?=some x:=by
  cases s with
  |nil=>simp at h5
  |cons y s=>exact congrArg some hx
 have hex:=yo s 1 5;rw [show 5 - 1=4 from rfl] at hex;have hdl:((s.drop 1).take 4).length=4:=by rw [N7,U3];omega
 have hf0:jF s=if 10000<yn ((s.drop 1).take 4)∨zO (yn ((s.drop 1).take 4))=false then none
  else if s.head?=some 100 then(if(s.drop 5).length<=4000 then some (100,(yn ((s.drop 1).take 4):Int),0,s.drop 5)else none)
  else if s.head?=some 112∨s.head?=some 118 then
   (if s.length<13 then none
    else if s.head?=some 112/\s.drop 13≠ [] then none
    else if 1<=yn ((s.drop 5).take 4)+4294967296*yn ((s.drop 9).take 4)/\(s.drop 13).length<=4000 then some (s.head?.getD 0,(yn ((s.drop 1).take 4):Int),yn ((s.drop 5).take 4)+4294967296*yn ((s.drop 9).take 4),s.drop 13)else none)
  else none:=by unfold jF;rw [if_neg h5]
 rw [hhd] at hf0;simp only [Option.some.injEq,Option.getD_some] at hf0
 generalize(s.drop 1).take 4=d at*
 have hget:=λW=>xQ d (by omega) W
 rw [vK hdl] at hget;have hgl:=vW d
 generalize yn d=n at*
 have hin:=λW=>Yr (n:Int) W
 have hwn:IntKind.i64.wrap (n:Int)=n:=by rw [N8];omega
 have c5:¬(bs s).size<5:=by omega
 replace hget:=hid hget;replace hhd:=hid hhd
 by_cases hbad:10000<n∨zO (n:Int)=false
 ·rw [if_pos hbad] at hf0
  rw [hf0];replace hf0:=hid hf0;replace hsz:=hid hsz
  by_cases h1:10000<n
  ·have t1:decide ((10000:Int)<(n:Int))=true:=by simp;omega
   replace hin:=hid hin;clear hbad
   go_enter func212,ntmps212
   go_wp2_with fail
   refine(hget.out _).mono ?_;rintro e w1⟨rfl,hb1⟩;have k1:Blk w1 w.heap.size #[.int .u8 0,.int .i64 0,.int .u64 0,.string ⟨#[]⟩] 337:=Blk.call (bkx) hb1;have c1:=k1.cell;have f1:=k1.frozen;have l1:=k1.lt;have hbw:Below w.heap.size w w1:=pbx;have rr:=(((((k1).set (o:=0) (.int .u8 0)).set (o:=1) (.int .i64 0)).set (o:=2) (.int .u64 0)).set (o:=3) (.string ⟨#[]⟩)).cell;go_wp2;exact bodyPost_ret (v:=.tuple #[.agg #[.int .u8 0,.int .i64 0,.int .u64 0,.string ⟨#[]⟩],.bool false]) (by simp [results,Tryz.results212,go_sem,rr]) rfl ⟨0,0,0,⟨#[]⟩,rfl,by simp,zn (zn (zn (zn hbw (by simp) _) (by simp) _) (by simp) _) (by simp) _⟩
  ·have t1:decide ((10000:Int)<(n:Int))=false:=by simp;omega
   rw [hbad.resolve_left h1] at hin;replace hin:=hid hin;clear hbad
   go_enter func212,ntmps212
   go_wp2_with fail
   refine(hget.out _).mono ?_;rintro e w1⟨rfl,hb1⟩;have k1:Blk w1 w.heap.size #[.int .u8 0,.int .i64 0,.int .u64 0,.string ⟨#[]⟩] 337:=Blk.call (bkx) hb1;have c1:=k1.cell;have f1:=k1.frozen;have l1:=k1.lt;have hbw:Below w.heap.size w w1:=pbx;go_wp2_with fail
   refine(hin.out _).mono ?_;rintro e w2⟨rfl,hw2⟩;obtain rfl:=hw2.symm;have rr:=(((((k1).set (o:=0) (.int .u8 0)).set (o:=1) (.int .i64 0)).set (o:=2) (.int .u64 0)).set (o:=3) (.string ⟨#[]⟩)).cell;go_wp2;exact bodyPost_ret (v:=.tuple #[.agg #[.int .u8 0,.int .i64 0,.int .u64 0,.string ⟨#[]⟩],.bool false]) (by simp [results,Tryz.results212,go_sem,rr]) rfl ⟨0,0,0,⟨#[]⟩,rfl,by simp,zn (zn (zn (zn hbw (by simp) _) (by simp) _) (by simp) _) (by simp) _⟩
 ·rw [if_neg hbad] at hf0
  have hi1:zO (n:Int)=true:=by cases h:zO (n:Int);exact absurd (.inr h) hbad;rfl
  have hn4:¬10000<n:=λh=>hbad (.inl h)
  have t1:decide ((10000:Int)<(n:Int))=false:=by simp;omega
  rw [hi1] at hin;replace hin:=hid hin;replace hi1:=hid hi1;clear hbad
  by_cases hx1:x=100
  ·subst hx1
   rw [if_pos rfl] at hf0;have hxd:=jk s 5;have hv:=zJ (s.drop 5);have t2:(((100:UInt8).toNat:Int)==100)=true:=rfl
   generalize s.drop 5=v at*
   have t4:decide (((bs v).size:Int)<=4000)=decide (v.length<=4000):=by rw [hv];exact decide_eq_decide.2 (by omega)
   replace hsz:=hid hsz;replace hv:=hid hv;replace hf0:=hid hf0;clear c5
   go_enter func212,ntmps212
   go_wp2_with fail
   refine(hget.out _).mono ?_;rintro e w1⟨rfl,hb1⟩;have k1:Blk w1 w.heap.size #[.int .u8 0,.int .i64 0,.int .u64 0,.string ⟨#[]⟩] 337:=Blk.call (bkx) hb1;have c1:=k1.cell;have f1:=k1.frozen;have l1:=k1.lt;have hbw:Below w.heap.size w w1:=pbx;go_wp2_with fail
   refine(hin.out _).mono ?_;rintro e w2⟨rfl,hw2⟩;obtain rfl:=hw2.symm;go_wp2_with fail
   have kA:Blk (w1.alloc (.cells #[.int .u8 100,.int .i64 n,.int .u64 0,.string (bs v)] 337)) w1.heap.size #[.int .u8 100,.int .i64 n,.int .u64 0,.string (bs v)] 337:=Blk.new rfl;have kT:=k1.alloc (.cells #[.int .u8 100,.int .i64 n,.int .u64 0,.string (bs v)] 337);have hbT:=zi hbw (.cells #[.int .u8 100,.int .i64 n,.int .u64 0,.string (bs v)] 337);have hneA:w1.heap.size≠w.heap.size:=by omega
   have hso:Hid ((jF s).isSome=decide (v.length<=4000)):=by
    have h:=hf0.out
    by_cases hv4:v.length<=4000
    ·rw [if_pos hv4] at h;show(jF s).isSome=_;rw [h];simp [hv4]
    ·rw [if_neg hv4] at h;show(jF s).isSome=_;rw [h];simp [hv4]
   have hfld:Hid (∀k i m y,jF s=some (k,i,m,y)->(100:Int)=k.toNat/\(n:Int)=i/\(0:Int)=m/\bs v=bs y):=by
    intro k i m y h;have h2:=hf0.out;rw [h] at h2
    split at h2
    ·cases h2;exact⟨rfl,rfl,rfl,rfl⟩
    ·cases h2
   refine zd [O 0,O 1,O 2,O 3,O 4,E 5,O 6] none (λw'=>Blk w' w1.heap.size #[.int .u8 100,.int .i64 n,.int .u64 0,.string (bs v)] 337/\True) (by kernel_rfl) (by kernel_rfl) ⟨kA.drew,trivial⟩ ?_
   (repeat (refine za (v:=?_) rfl rfl (λw' h=>?_) (λK k=>?_);rotate_left;obtain⟨f1,_⟩:=h;have e1:=f1.cell;go_simp;(try with_reducible rfl);go_simp;refine k _ ?_;clear k K))
   refine zc rfl (λK hK=>?_);have cT:=kT.cell;have fT:=kT.frozen;have lT:=kT.lt;go_wp2;refine hK.out _ _ (λ_=>⟨Blk.drew (Blk.new (by simp)),trivial⟩) ?_;clear hK K
   (repeat (refine za (v:=?_) rfl rfl (λw' h=>?_) (λK k=>?_);rotate_left;obtain⟨f1,_⟩:=h;have e1:=f1.cell;go_simp;(try with_reducible rfl);go_simp;refine k _ ?_;clear k K))
   refine ze ?_;have rr:=(((((k1.set (o:=0) (.int .u8 100)).set (o:=1) (.int .i64 n)).set (o:=2) (.int .u64 0)).set (o:=3) (.string (bs v))).alloc (.cells #[.int .u8 100,.int .i64 n,.int .u64 0,.string (bs v)] 337)).cell;have hbz:=zo (zi (zn (zn (zn (zn hbw (p:=⟨w.heap.size,0,none⟩) (by simp) (.int .u8 100)) (p:=⟨w.heap.size,1,none⟩) (by simp) (.int .i64 n)) (p:=⟨w.heap.size,2,none⟩) (by simp) (.int .u64 0)) (p:=⟨w.heap.size,3,none⟩) (by simp) (.string (bs v))) (.cells #[.int .u8 100,.int .i64 n,.int .u64 0,.string (bs v)] 337));go_wp2;exact bodyPost_ret (v:=.tuple #[.agg #[.int .u8 100,.int .i64 n,.int .u64 0,.string (bs v)],.bool (decide<|v.length<=4000)]) (by simp [results,Tryz.results212,go_sem,rr]) rfl ⟨100,n,0,bs v,by rw [hso.out],hfld.out,hbz⟩
  ·rw [if_neg hx1] at hf0
   have t2:((x.toNat:Int)==100)=false:=by
    simp only [beq_eq_false_iff_ne,ne_eq];intro hc;exact hx1 (UInt8.toNat_inj.1 (by simpa using(by omega:x.toNat=100)))
   by_cases hx2:x=112
   ·subst hx2
    rw [if_pos (.inl rfl)] at hf0;have t3:(((112:UInt8).toNat:Int)==112)=true:=rfl;have t2':(((112:UInt8).toNat:Int)==100)=false:=rfl;clear t2 hx1
    by_cases h13:s.length<13
    ·rw [if_pos h13] at hf0
     rw [hf0];have t4:decide (((bs s).size:Int)<13)=true:=by rw [hsz];simp;omega
     replace hsz:=hid hsz;replace hf0:=hid hf0;clear c5
     go_enter func212,ntmps212
     go_wp2_with fail
     refine(hget.out _).mono ?_;rintro e w1⟨rfl,hb1⟩;have k1:Blk w1 w.heap.size #[.int .u8 0,.int .i64 0,.int .u64 0,.string ⟨#[]⟩] 337:=Blk.call (bkx) hb1;have c1:=k1.cell;have f1:=k1.frozen;have l1:=k1.lt;have hbw:Below w.heap.size w w1:=pbx;go_wp2_with fail
     refine(hin.out _).mono ?_;rintro e w2⟨rfl,hw2⟩;obtain rfl:=hw2.symm;have rr:=(((((k1.set (o:=0) (.int .u8 0)).set (o:=1) (.int .i64 0)).set (o:=2) (.int .u64 0)).set (o:=3) (.string ⟨#[]⟩)).alloc (.cells #[.int .u8 112,.int .i64 n,.int .u64 0,.string ⟨#[]⟩] 337)).cell;go_wp2;exact bodyPost_ret (v:=.tuple #[.agg #[.int .u8 0,.int .i64 0,.int .u64 0,.string ⟨#[]⟩],.bool false]) (by simp [results,Tryz.results212,go_sem,rr]) rfl ⟨0,0,0,⟨#[]⟩,rfl,by simp,zi (zn (zn (zn (zn hbw (by simp) _) (by simp) _) (by simp) _) (by simp) _) _⟩
    ·rw [if_neg h13] at hf0
     have t4:decide (((bs s).size:Int)<13)=false:=by rw [hsz];simp;omega
     have b13:(13:Int)<=((bs s).size:Int):=by omega
     have c13:¬(bs s).size<13:=by omega
     have hxm:=yo s 5 13;rw [show 13 - 5=8 from rfl] at hxm;have hml:((s.drop 5).take 8).length=8:=by rw [N7,U3];omega
     have hnum:=λW=>Qj ((s.drop 5).take 8) hml W
     rw [(JF s).1,(JF s).2] at hnum;have hxd:=jk s 13;have hv:=zJ (s.drop 13);have hem:(bs (s.drop 13)).toList.isEmpty=(s.drop 13).isEmpty:=by rw [yC]
     generalize(s.drop 5).take 8=u at*
     generalize yn ((s.drop 5).take 4)+4294967296*yn ((s.drop 9).take 4)=m at*
     generalize s.drop 13=v at*
     have t6:decide (((bs v).size:Int)<=4000)=decide (v.length<=4000):=by rw [hv];exact decide_eq_decide.2 (by omega)
     replace hnum:=hid hnum;replace hsz:=hid hsz;replace hv:=hid hv;replace hml:=hid hml;clear c5
     by_cases hve:v=[]
     ·rw [if_neg (by simp [hve])] at hf0
      have hee:v.isEmpty=true:=by simp [hve]
      rw [hee] at hem;replace hve:=hid hve;replace hee:=hid hee;replace hf0:=hid hf0
      have hso:Hid ((jF s).isSome=(decide (1<=m)&& decide (v.length<=4000))):=by
       have h:=hf0.out
       by_cases hv4:1<=m/\v.length<=4000
       ·rw [if_pos hv4] at h;show(jF s).isSome=_;rw [h];simp [hv4.1,hv4.2]
       ·rw [if_neg hv4] at h;show(jF s).isSome=_;rw [h]
        rw [Classical.not_and_iff_not_or_not] at hv4
        rcases hv4 with h1|h1<;>simp [h1]
      have hfld:Hid (∀k i m' y,jF s=some (k,i,m',y)->(112:Int)=k.toNat/\(n:Int)=i/\(m:Int)=m'/\bs v=bs y):=by
       intro k i m' y h;have h2:=hf0.out;rw [h] at h2
       split at h2
       ·cases h2;exact⟨rfl,rfl,rfl,rfl⟩
       ·cases h2
      have t5':decide ((1:Int)<=(m:Int))=decide (1<=m):=decide_eq_decide.2 (by omega)
      go_enter func212,ntmps212
      go_wp2_with fail
      refine(hget.out _).mono ?_;rintro e w1⟨rfl,hb1⟩;have k1:Blk w1 w.heap.size #[.int .u8 0,.int .i64 0,.int .u64 0,.string ⟨#[]⟩] 337:=Blk.call (bkx) hb1;have c1:=k1.cell;have f1:=k1.frozen;have l1:=k1.lt;have hbw:Below w.heap.size w w1:=pbx;go_wp2_with fail
      refine(hin.out _).mono ?_;rintro e w2⟨rfl,hw2⟩;obtain rfl:=hw2.symm;have kA0:Blk (w1.alloc (.cells #[.int .u8 112,.int .i64 n,.int .u64 0,.string ⟨#[]⟩] 337)) w1.heap.size #[.int .u8 112,.int .i64 n,.int .u64 0,.string ⟨#[]⟩] 337:=Blk.new rfl;go_wp2_with fail
      refine(hnum.out _).mono ?_;rintro e w3⟨rfl,hb3⟩;have kA3:=kA0.call hb3;have k13:=(k1.alloc (.cells #[.int .u8 112,.int .i64 n,.int .u64 0,.string ⟨#[]⟩] 337)).call hb3;have hbw3:Below w.heap.size w w3:=zg (zi hbw _) hb3;have hlw1:w.heap.size<w1.heap.size:=by omega
      have hneA:w1.heap.size≠w.heap.size:=by omega
      clear c1 f1 l1 kA0 k1 hb3;have kA4:=(kA3.set (o:=2) (.int .u64 m)).set (o:=3) (.string (bs v));have k14:=(k13.other (p:=⟨w1.heap.size,2,none⟩) (Ne.symm hneA) (.int .u64 m)).other (p:=⟨w1.heap.size,3,none⟩) (Ne.symm hneA) (.string (bs v));have hb4:Below w.heap.size w ((w3.setCell ⟨w1.heap.size,2,none⟩ (.int .u64 m)).setCell ⟨w1.heap.size,3,none⟩ (.string (bs v))):=zn (zn hbw3 (p:=⟨w1.heap.size,2,none⟩) (by simp;omega) _) (p:=⟨w1.heap.size,3,none⟩) (by simp;omega) _;have cA3:=kA3.cell;have fA3:=kA3.frozen;have lA3:=kA3.lt;have c13':=k13.cell;have f13:=k13.frozen;have l13:=k13.lt;have cA4:=kA4.cell
      cases h1m:decide (1<=m)
      ·
        rw [h1m] at t5' hso;replace h1m:=hid h1m;go_wp2_with fail
        refine zd [O 0,O 1,O 2,O 3,O 4,O 5,O 6,O 7,O 8,O 9,E 10,O 11] none (λw'=>Blk w' w1.heap.size #[.int .u8 112,.int .i64 n,.int .u64 m,.string (bs v)] 337/\True) (by kernel_rfl) (by kernel_rfl) ⟨kA4.drew,trivial⟩ ?_;clear cA3 fA3 c13' f13
        (repeat (refine za (v:=?_) rfl rfl (λw' h=>?_) (λK k=>?_);rotate_left;obtain⟨f1,_⟩:=h;have e1:=f1.cell;go_simp;(try with_reducible rfl);go_simp;refine k _ ?_;clear k K))
        (repeat (refine je rfl rfl (λK hK=>?_);go_simp;refine hK _ ?_;clear hK K))
        (repeat (refine za (v:=?_) rfl rfl (λw' h=>?_) (λK k=>?_);rotate_left;obtain⟨f1,_⟩:=h;have e1:=f1.cell;go_simp;(try with_reducible rfl);go_simp;refine k _ ?_;clear k K))
        refine zc rfl (λK hK=>?_);have cT:=k14.cell;have fT:=k14.frozen;have lT:=k14.lt;go_wp2;have kA5:=(((kA4.other (p:=⟨w.heap.size,0,none⟩) hneA (.int .u8 112)).other (p:=⟨w.heap.size,1,none⟩) hneA (.int .i64 n)).other (p:=⟨w.heap.size,2,none⟩) hneA (.int .u64 m)).other (p:=⟨w.heap.size,3,none⟩) hneA (.string (bs v));refine hK.out _ _ (λ_=>⟨kA5.drew,trivial⟩) ?_;clear hK K
        (repeat (refine za (v:=?_) rfl rfl (λw' h=>?_) (λK k=>?_);rotate_left;obtain⟨f1,_⟩:=h;have e1:=f1.cell;go_simp;(try with_reducible rfl);go_simp;refine k _ ?_;clear k K))
        refine ze ?_;have rr:=((((k14.set (o:=0) (.int .u8 112)).set (o:=1) (.int .i64 n)).set (o:=2) (.int .u64 m)).set (o:=3) (.string (bs v))).cell;have hbz:=zo (zn (zn (zn (zn hb4 (p:=⟨w.heap.size,0,none⟩) (by simp) (.int .u8 112)) (p:=⟨w.heap.size,1,none⟩) (by simp) (.int .i64 n)) (p:=⟨w.heap.size,2,none⟩) (by simp) (.int .u64 m)) (p:=⟨w.heap.size,3,none⟩) (by simp) (.string (bs v)));go_wp2;exact bodyPost_ret (v:=.tuple #[.agg #[.int .u8 112,.int .i64 n,.int .u64 m,.string (bs v)],.bool false]) (by simp [results,Tryz.results212,go_sem,rr]) rfl ⟨112,n,m,bs v,by rw [hso.out];rfl,hfld.out,hbz⟩
      ·
        rw [h1m] at t5' hso;replace h1m:=hid h1m;go_wp2_with fail
        refine zd [O 0,O 1,O 2,O 3,O 4,O 5,O 6,O 7,O 8,O 9,E 10,O 11] none (λw'=>Blk w' w1.heap.size #[.int .u8 112,.int .i64 n,.int .u64 m,.string (bs v)] 337/\True) (by kernel_rfl) (by kernel_rfl) ⟨kA4.drew,trivial⟩ ?_;clear cA3 fA3 c13' f13
        (repeat (refine za (v:=?_) rfl rfl (λw' h=>?_) (λK k=>?_);rotate_left;obtain⟨f1,_⟩:=h;have e1:=f1.cell;go_simp;(try with_reducible rfl);go_simp;refine k _ ?_;clear k K))
        (repeat (refine je rfl rfl (λK hK=>?_);go_simp;refine hK _ ?_;clear hK K))
        (repeat (refine za (v:=?_) rfl rfl (λw' h=>?_) (λK k=>?_);rotate_left;obtain⟨f1,_⟩:=h;have e1:=f1.cell;go_simp;(try with_reducible rfl);go_simp;refine k _ ?_;clear k K))
        refine zc rfl (λK hK=>?_);have cT:=k14.cell;have fT:=k14.frozen;have lT:=k14.lt;go_wp2;have kA5:=(((kA4.other (p:=⟨w.heap.size,0,none⟩) hneA (.int .u8 112)).other (p:=⟨w.heap.size,1,none⟩) hneA (.int .i64 n)).other (p:=⟨w.heap.size,2,none⟩) hneA (.int .u64 m)).other (p:=⟨w.heap.size,3,none⟩) hneA (.string (bs v));refine hK.out _ _ (λ_=>⟨kA5.drew,trivial⟩) ?_;clear hK K
        (repeat (refine za (v:=?_) rfl rfl (λw' h=>?_) (λK k=>?_);rotate_left;obtain⟨f1,_⟩:=h;have e1:=f1.cell;go_simp;(try with_reducible rfl);go_simp;refine k _ ?_;clear k K))
        refine ze ?_;have rr:=((((k14.set (o:=0) (.int .u8 112)).set (o:=1) (.int .i64 n)).set (o:=2) (.int .u64 m)).set (o:=3) (.string (bs v))).cell;have hbz:=zo (zn (zn (zn (zn hb4 (p:=⟨w.heap.size,0,none⟩) (by simp) (.int .u8 112)) (p:=⟨w.heap.size,1,none⟩) (by simp) (.int .i64 n)) (p:=⟨w.heap.size,2,none⟩) (by simp) (.int .u64 m)) (p:=⟨w.heap.size,3,none⟩) (by simp) (.string (bs v)));go_wp2;exact bodyPost_ret (v:=.tuple #[.agg #[.int .u8 112,.int .i64 n,.int .u64 m,.string (bs v)],.bool (decide<|v.length<=4000)]) (by simp [results,Tryz.results212,go_sem,rr]) rfl ⟨112,n,m,bs v,by rw [hso.out];rfl,hfld.out,hbz⟩
     ·rw [if_pos ⟨rfl,hve⟩] at hf0
      rw [hf0];have hee:v.isEmpty=false:=by simp [hve]
      rw [hee] at hem;replace hve:=hid hve;replace hee:=hid hee;replace hf0:=hid hf0
      go_enter func212,ntmps212
      go_wp2_with fail
      refine(hget.out _).mono ?_;rintro e w1⟨rfl,hb1⟩;have k1:Blk w1 w.heap.size #[.int .u8 0,.int .i64 0,.int .u64 0,.string ⟨#[]⟩] 337:=Blk.call (bkx) hb1;have c1:=k1.cell;have f1:=k1.frozen;have l1:=k1.lt;have hbw:Below w.heap.size w w1:=pbx;go_wp2_with fail
      refine(hin.out _).mono ?_;rintro e w2⟨rfl,hw2⟩;obtain rfl:=hw2.symm;have kA0:Blk (w1.alloc (.cells #[.int .u8 112,.int .i64 n,.int .u64 0,.string ⟨#[]⟩] 337)) w1.heap.size #[.int .u8 112,.int .i64 n,.int .u64 0,.string ⟨#[]⟩] 337:=Blk.new rfl;go_wp2_with fail
      refine(hnum.out _).mono ?_;rintro e w3⟨rfl,hb3⟩;have kA3:=kA0.call hb3;have k13:=(k1.alloc (.cells #[.int .u8 112,.int .i64 n,.int .u64 0,.string ⟨#[]⟩] 337)).call hb3;have hbw3:Below w.heap.size w w3:=zg (zi hbw _) hb3;have hlw1:w.heap.size<w1.heap.size:=by omega
      have hneA:w1.heap.size≠w.heap.size:=by omega
      clear c1 f1 l1 kA0 k1 hb3;have kA4:=(kA3.set (o:=2) (.int .u64 m)).set (o:=3) (.string (bs v));have k14:=(k13.other (p:=⟨w1.heap.size,2,none⟩) (Ne.symm hneA) (.int .u64 m)).other (p:=⟨w1.heap.size,3,none⟩) (Ne.symm hneA) (.string (bs v));have hb4:Below w.heap.size w ((w3.setCell ⟨w1.heap.size,2,none⟩ (.int .u64 m)).setCell ⟨w1.heap.size,3,none⟩ (.string (bs v))):=zn (zn hbw3 (p:=⟨w1.heap.size,2,none⟩) (by simp;omega) _) (p:=⟨w1.heap.size,3,none⟩) (by simp;omega) _;have cA3:=kA3.cell;have fA3:=kA3.frozen;have lA3:=kA3.lt;have c13':=k13.cell;have f13:=k13.frozen;have l13:=k13.lt;have cA4:=kA4.cell;have c14:=k14.cell;have f14:=k14.frozen;have l14:=k14.lt;have rr:=((((k14.set (o:=0) (.int .u8 0)).set (o:=1) (.int .i64 0)).set (o:=2) (.int .u64 0)).set (o:=3) (.string ⟨#[]⟩)).cell;go_wp2;exact bodyPost_ret (v:=.tuple #[.agg #[.int .u8 0,.int .i64 0,.int .u64 0,.string ⟨#[]⟩],.bool false]) (by simp [results,Tryz.results212,go_sem,rr]) rfl ⟨0,0,0,⟨#[]⟩,rfl,by simp,zn (zn (zn (zn hb4 (by simp) _) (by simp) _) (by simp) _) (by simp) _⟩
   ·by_cases hx3:x=118
    ·subst hx3
     rw [if_pos (.inr rfl)] at hf0;have t3:(((118:UInt8).toNat:Int)==112)=false:=rfl;have t3':(((118:UInt8).toNat:Int)==118)=true:=rfl;clear t2 hx1 hx2
     by_cases h13:s.length<13
     ·rw [if_pos h13] at hf0
      rw [hf0];have t4:decide (((bs s).size:Int)<13)=true:=by rw [hsz];simp;omega
      replace hsz:=hid hsz;replace hf0:=hid hf0;clear c5
      go_enter func212,ntmps212
      go_wp2_with fail
      refine(hget.out _).mono ?_;rintro e w1⟨rfl,hb1⟩;have k1:Blk w1 w.heap.size #[.int .u8 0,.int .i64 0,.int .u64 0,.string ⟨#[]⟩] 337:=Blk.call (bkx) hb1;have c1:=k1.cell;have f1:=k1.frozen;have l1:=k1.lt;have hbw:Below w.heap.size w w1:=pbx;go_wp2_with fail
      refine(hin.out _).mono ?_;rintro e w2⟨rfl,hw2⟩;obtain rfl:=hw2.symm;have rr:=(((((k1.set (o:=0) (.int .u8 0)).set (o:=1) (.int .i64 0)).set (o:=2) (.int .u64 0)).set (o:=3) (.string ⟨#[]⟩)).alloc (.cells #[.int .u8 118,.int .i64 n,.int .u64 0,.string ⟨#[]⟩] 337)).cell;go_wp2;exact bodyPost_ret (v:=.tuple #[.agg #[.int .u8 0,.int .i64 0,.int .u64 0,.string ⟨#[]⟩],.bool false]) (by simp [results,Tryz.results212,go_sem,rr]) rfl ⟨0,0,0,⟨#[]⟩,rfl,by simp,zi (zn (zn (zn (zn hbw (by simp) _) (by simp) _) (by simp) _) (by simp) _) _⟩
     ·rw [if_neg h13] at hf0
      have t4:decide (((bs s).size:Int)<13)=false:=by rw [hsz];simp;omega
      have b13:(13:Int)<=((bs s).size:Int):=by omega
      have c13:¬(bs s).size<13:=by omega
      have hxm:=yo s 5 13;rw [show 13 - 5=8 from rfl] at hxm;have hml:((s.drop 5).take 8).length=8:=by rw [N7,U3];omega
      have hnum:=λW=>Qj ((s.drop 5).take 8) hml W
      rw [(JF s).1,(JF s).2] at hnum;have hxd:=jk s 13;have hv:=zJ (s.drop 13);have hem:(bs (s.drop 13)).toList.isEmpty=(s.drop 13).isEmpty:=by rw [yC]
      generalize(s.drop 5).take 8=u at*
      generalize yn ((s.drop 5).take 4)+4294967296*yn ((s.drop 9).take 4)=m at*
      generalize s.drop 13=v at*
      have t6:decide (((bs v).size:Int)<=4000)=decide (v.length<=4000):=by rw [hv];exact decide_eq_decide.2 (by omega)
      replace hnum:=hid hnum;replace hsz:=hid hsz;replace hv:=hid hv;replace hml:=hid hml;clear c5;rw [if_neg (by simp)] at hf0;replace hf0:=hid hf0
      have hso:Hid ((jF s).isSome=(decide (1<=m)&& decide (v.length<=4000))):=by
       have h:=hf0.out
       by_cases hv4:1<=m/\v.length<=4000
       ·rw [if_pos hv4] at h;show(jF s).isSome=_;rw [h];simp [hv4.1,hv4.2]
       ·rw [if_neg hv4] at h;show(jF s).isSome=_;rw [h]
        rw [Classical.not_and_iff_not_or_not] at hv4
        rcases hv4 with h1|h1<;>simp [h1]
      have hfld:Hid (∀k i m' y,jF s=some (k,i,m',y)->(118:Int)=k.toNat/\(n:Int)=i/\(m:Int)=m'/\bs v=bs y):=by
       intro k i m' y h;have h2:=hf0.out;rw [h] at h2
       split at h2
       ·cases h2;exact⟨rfl,rfl,rfl,rfl⟩
       ·cases h2
      have t5':decide ((1:Int)<=(m:Int))=decide (1<=m):=decide_eq_decide.2 (by omega)
      go_enter func212,ntmps212
      go_wp2_with fail
      refine(hget.out _).mono ?_;rintro e w1⟨rfl,hb1⟩;have k1:Blk w1 w.heap.size #[.int .u8 0,.int .i64 0,.int .u64 0,.string ⟨#[]⟩] 337:=Blk.call (bkx) hb1;have c1:=k1.cell;have f1:=k1.frozen;have l1:=k1.lt;have hbw:Below w.heap.size w w1:=pbx;go_wp2_with fail
      refine(hin.out _).mono ?_;rintro e w2⟨rfl,hw2⟩;obtain rfl:=hw2.symm;have kA0:Blk (w1.alloc (.cells #[.int .u8 118,.int .i64 n,.int .u64 0,.string ⟨#[]⟩] 337)) w1.heap.size #[.int .u8 118,.int .i64 n,.int .u64 0,.string ⟨#[]⟩] 337:=Blk.new rfl;go_wp2_with fail
      refine(hnum.out _).mono ?_;rintro e w3⟨rfl,hb3⟩;have kA3:=kA0.call hb3;have k13:=(k1.alloc (.cells #[.int .u8 118,.int .i64 n,.int .u64 0,.string ⟨#[]⟩] 337)).call hb3;have hbw3:Below w.heap.size w w3:=zg (zi hbw _) hb3;have hlw1:w.heap.size<w1.heap.size:=by omega
      have hneA:w1.heap.size≠w.heap.size:=by omega
      clear c1 f1 l1 kA0 k1 hb3;have kA4:=(kA3.set (o:=2) (.int .u64 m)).set (o:=3) (.string (bs v));have k14:=(k13.other (p:=⟨w1.heap.size,2,none⟩) (Ne.symm hneA) (.int .u64 m)).other (p:=⟨w1.heap.size,3,none⟩) (Ne.symm hneA) (.string (bs v));have hb4:Below w.heap.size w ((w3.setCell ⟨w1.heap.size,2,none⟩ (.int .u64 m)).setCell ⟨w1.heap.size,3,none⟩ (.string (bs v))):=zn (zn hbw3 (p:=⟨w1.heap.size,2,none⟩) (by simp;omega) _) (p:=⟨w1.heap.size,3,none⟩) (by simp;omega) _;have cA3:=kA3.cell;have fA3:=kA3.frozen;have lA3:=kA3.lt;have c13':=k13.cell;have f13:=k13.frozen;have l13:=k13.lt;have cA4:=kA4.cell
      cases h1m:decide (1<=m)
      ·
        rw [h1m] at t5' hso;replace h1m:=hid h1m;go_wp2_with fail
        refine zd [O 0,O 1,O 2,O 3,O 4,O 5,O 6,O 7,O 8,O 9,E 10,O 11] none (λw'=>Blk w' w1.heap.size #[.int .u8 118,.int .i64 n,.int .u64 m,.string (bs v)] 337/\True) (by kernel_rfl) (by kernel_rfl) ⟨kA4.drew,trivial⟩ ?_;clear cA3 fA3 c13' f13
        (repeat (refine za (v:=?_) rfl rfl (λw' h=>?_) (λK k=>?_);rotate_left;obtain⟨f1,_⟩:=h;have e1:=f1.cell;go_simp;(try with_reducible rfl);go_simp;refine k _ ?_;clear k K))
        (repeat (refine je rfl rfl (λK hK=>?_);go_simp;refine hK _ ?_;clear hK K))
        (repeat (refine za (v:=?_) rfl rfl (λw' h=>?_) (λK k=>?_);rotate_left;obtain⟨f1,_⟩:=h;have e1:=f1.cell;go_simp;(try with_reducible rfl);go_simp;refine k _ ?_;clear k K))
        refine zc rfl (λK hK=>?_);have cT:=k14.cell;have fT:=k14.frozen;have lT:=k14.lt;go_wp2;have kA5:=(((kA4.other (p:=⟨w.heap.size,0,none⟩) hneA (.int .u8 118)).other (p:=⟨w.heap.size,1,none⟩) hneA (.int .i64 n)).other (p:=⟨w.heap.size,2,none⟩) hneA (.int .u64 m)).other (p:=⟨w.heap.size,3,none⟩) hneA (.string (bs v));refine hK.out _ _ (λ_=>⟨kA5.drew,trivial⟩) ?_;clear hK K
        (repeat (refine za (v:=?_) rfl rfl (λw' h=>?_) (λK k=>?_);rotate_left;obtain⟨f1,_⟩:=h;have e1:=f1.cell;go_simp;(try with_reducible rfl);go_simp;refine k _ ?_;clear k K))
        refine ze ?_;have rr:=((((k14.set (o:=0) (.int .u8 118)).set (o:=1) (.int .i64 n)).set (o:=2) (.int .u64 m)).set (o:=3) (.string (bs v))).cell;have hbz:=zo (zn (zn (zn (zn hb4 (p:=⟨w.heap.size,0,none⟩) (by simp) (.int .u8 118)) (p:=⟨w.heap.size,1,none⟩) (by simp) (.int .i64 n)) (p:=⟨w.heap.size,2,none⟩) (by simp) (.int .u64 m)) (p:=⟨w.heap.size,3,none⟩) (by simp) (.string (bs v)));go_wp2;exact bodyPost_ret (v:=.tuple #[.agg #[.int .u8 118,.int .i64 n,.int .u64 m,.string (bs v)],.bool false]) (by simp [results,Tryz.results212,go_sem,rr]) rfl ⟨118,n,m,bs v,by rw [hso.out];rfl,hfld.out,hbz⟩
      ·
        rw [h1m] at t5' hso;replace h1m:=hid h1m;go_wp2_with fail
        refine zd [O 0,O 1,O 2,O 3,O 4,O 5,O 6,O 7,O 8,O 9,E 10,O 11] none (λw'=>Blk w' w1.heap.size #[.int .u8 118,.int .i64 n,.int .u64 m,.string (bs v)] 337/\True) (by kernel_rfl) (by kernel_rfl) ⟨kA4.drew,trivial⟩ ?_;clear cA3 fA3 c13' f13
        (repeat (refine za (v:=?_) rfl rfl (λw' h=>?_) (λK k=>?_);rotate_left;obtain⟨f1,_⟩:=h;have e1:=f1.cell;go_simp;(try with_reducible rfl);go_simp;refine k _ ?_;clear k K))
        (repeat (refine je rfl rfl (λK hK=>?_);go_simp;refine hK _ ?_;clear hK K))
        (repeat (refine za (v:=?_) rfl rfl (λw' h=>?_) (λK k=>?_);rotate_left;obtain⟨f1,_⟩:=h;have e1:=f1.cell;go_simp;(try with_reducible rfl);go_simp;refine k _ ?_;clear k K))
        refine zc rfl (λK hK=>?_);have cT:=k14.cell;have fT:=k14.frozen;have lT:=k14.lt;go_wp2;have kA5:=(((kA4.other (p:=⟨w.heap.size,0,none⟩) hneA (.int .u8 118)).other (p:=⟨w.heap.size,1,none⟩) hneA (.int .i64 n)).other (p:=⟨w.heap.size,2,none⟩) hneA (.int .u64 m)).other (p:=⟨w.heap.size,3,none⟩) hneA (.string (bs v));refine hK.out _ _ (λ_=>⟨kA5.drew,trivial⟩) ?_;clear hK K
        (repeat (refine za (v:=?_) rfl rfl (λw' h=>?_) (λK k=>?_);rotate_left;obtain⟨f1,_⟩:=h;have e1:=f1.cell;go_simp;(try with_reducible rfl);go_simp;refine k _ ?_;clear k K))
        refine ze ?_;have rr:=((((k14.set (o:=0) (.int .u8 118)).set (o:=1) (.int .i64 n)).set (o:=2) (.int .u64 m)).set (o:=3) (.string (bs v))).cell;have hbz:=zo (zn (zn (zn (zn hb4 (p:=⟨w.heap.size,0,none⟩) (by simp) (.int .u8 118)) (p:=⟨w.heap.size,1,none⟩) (by simp) (.int .i64 n)) (p:=⟨w.heap.size,2,none⟩) (by simp) (.int .u64 m)) (p:=⟨w.heap.size,3,none⟩) (by simp) (.string (bs v)));go_wp2;exact bodyPost_ret (v:=.tuple #[.agg #[.int .u8 118,.int .i64 n,.int .u64 m,.string (bs v)],.bool (decide<|v.length<=4000)]) (by simp [results,Tryz.results212,go_sem,rr]) rfl ⟨118,n,m,bs v,by rw [hso.out];rfl,hfld.out,hbz⟩
    ·rw [if_neg (by simp [hx2,hx3])] at hf0
     rw [hf0]
     have t3:((x.toNat:Int)==112)=false:=by
      simp only [beq_eq_false_iff_ne,ne_eq];intro hc;exact hx2 (UInt8.toNat_inj.1 (by simpa using(by omega:x.toNat=112)))
     have t4:((x.toNat:Int)==118)=false:=by
      simp only [beq_eq_false_iff_ne,ne_eq];intro hc;exact hx3 (UInt8.toNat_inj.1 (by simpa using(by omega:x.toNat=118)))
     replace hsz:=hid hsz;replace hf0:=hid hf0;replace hx1:=hid hx1;replace hx2:=hid hx2;replace hx3:=hid hx3;clear c5
     go_enter func212,ntmps212
     go_wp2_with fail
     refine(hget.out _).mono ?_;rintro e w1⟨rfl,hb1⟩;have k1:Blk w1 w.heap.size #[.int .u8 0,.int .i64 0,.int .u64 0,.string ⟨#[]⟩] 337:=Blk.call (bkx) hb1;have c1:=k1.cell;have f1:=k1.frozen;have l1:=k1.lt;have hbw:Below w.heap.size w w1:=pbx;go_wp2_with fail
     refine(hin.out _).mono ?_;rintro e w2⟨rfl,hw2⟩;obtain rfl:=hw2.symm;have rr:=(((((k1.set (o:=0) (.int .u8 0)).set (o:=1) (.int .i64 0)).set (o:=2) (.int .u64 0)).set (o:=3) (.string ⟨#[]⟩)).alloc (.cells #[.int .u8 x.toNat,.int .i64 n,.int .u64 0,.string ⟨#[]⟩] 337)).cell;go_wp2;exact bodyPost_ret (v:=.tuple #[.agg #[.int .u8 0,.int .i64 0,.int .u64 0,.string ⟨#[]⟩],.bool false]) (by simp [results,Tryz.results212,go_sem,rr]) rfl ⟨0,0,0,⟨#[]⟩,rfl,by simp,zi (zn (zn (zn (zn hbw (by simp) _) (by simp) _) (by simp) _) (by simp) _) _⟩
