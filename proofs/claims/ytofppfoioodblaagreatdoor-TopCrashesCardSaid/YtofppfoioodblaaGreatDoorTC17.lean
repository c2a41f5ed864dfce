/- PARTS OF THE PROOF. -/
import Derived.Test.YtofppfoioodblaaGreatDoorTC16
set_option maxRecDepth 8000
set_option maxHeartbeats 4000000
open Go.Proofs.Tryz
namespace Go.Proofs.YtofppfoioodblaaGreatDoor
open Go Go.RowKit Go.Shelf Go.Extern.Stop Go.Stop Go.Extern
attribute [local go_sem] Oper.semAt_some zB zp
theorem XS(a b:Nat)(ha:a<18446744073709551616)(hb:b<18446744073709551616):bits .or .u64 (a:Int) (b:Int)=((a|||b:Nat):Int):=by
 have hx:a|||b<2 ^ 64:=Nat.or_lt_two_pow (by omega) (by omega)
 have h1:(BitVec.ofInt 64 (a:Int)).toNat=a:=by
  rw [BitVec.ofInt_natCast,BitVec.toNat_ofNat];exact Nat.mod_eq_of_lt (by omega)
 have h2:(BitVec.ofInt 64 (b:Int)).toNat=b:=by
  rw [BitVec.ofInt_natCast,BitVec.toNat_ofNat];exact Nat.mod_eq_of_lt (by omega)
 show IntKind.u64.wrap ((BitVec.ofInt 64 (a:Int)|||BitVec.ofInt 64 (b:Int)).toNat:Int)=_
 rw [BitVec.toNat_or,h1,h2,IntKind.wrap_u64];omega
theorem xx(d:List UInt8):yy d<4294967296:=by
 unfold yy
 split
 ·rename_i h
  have:=zdS d;rw [h] at this;exact Nat.lt_of_lt_of_le this (by decide)
 omega
theorem xf {d:List UInt8}(h:d.length=4):zlt d=.tuple #[.int .u32 (yy d:Nat),.int .i64 0]:=by unfold zlt;rw [if_pos h]
theorem zd8(h l:Nat)(hh:h<4294967296)(hl:l<4294967296):bits .or .u64 (IntKind.u64.wrap ((h:Int)*4294967296)) (l:Int)=((l+4294967296*h:Nat):Int):=by
 have h3:IntKind.u64.wrap ((h:Int)*4294967296)=((h*4294967296:Nat):Int):=by rw [IntKind.wrap_u64];omega
 have h4:=Nat.two_pow_add_eq_or_of_lt (i:=32) hl h;rw [h3,XS _ _ (by omega) (by omega)];rw [show h*4294967296=2 ^ 32*h by omega,← h4];omega
theorem zfk(h l:Nat)(hh:h<4294967296)(hl:l<4294967296):bits .or .u64 ((h:Int)*4294967296) (l:Int)=((l+4294967296*h:Nat):Int):=by
 have h3:IntKind.u64.wrap ((h:Int)*4294967296)=(h:Int)*4294967296:=by rw [IntKind.wrap_u64];omega
 rw [← h3];exact zd8 h l hh hl
theorem zaf(s:List UInt8)(hs:s.length=8)(w:World):Calls prog 260 #[.string (bs s)] w λe w'=>e=.returned (.int .u64 (yy (s.take 4)+4294967296*yy (s.drop 4):Nat))/\Below w.heap.size w w':=by
 have ae:=zL s;have an:=vS s 4;have aj:=ju s 4;have ai:(s.take 4).length=4:=by rw [N7];omega
 have af:(s.drop 4).length=4:=by rw [U3];omega
 have g1:=λW=>ql (s.take 4) (by omega) W
 have g2:=λW=>ql (s.drop 4) (by omega) W
 rw [xf ai] at g1;rw [xf af] at g2;have ad:=xx (s.take 4);have ac:=xx (s.drop 4)
 generalize s.take 4=d1 at*
 generalize s.drop 4=d2 at*
 generalize yy d1=n1 at*
 generalize yy d2=n2 at*
 have al:=zd8 n2 n1 ac ad;have aa:=zfk n2 n1 ac ad;replace aa:=hid aa;have am:IntKind.u64.wrap (n2:Int)=(n2:Int):=by rw [IntKind.wrap_u64];omega
 have ak:IntKind.u64.wrap (n1:Int)=(n1:Int):=by rw [IntKind.wrap_u64];omega
 have y1:(4:Int)<=((bs s).size:Int):=by omega
 replace ae:=hid ae;replace g1:=hid g1;replace g2:=hid g2
 go_enter func260,ntmps260
 go_wp2_with fail
 refine(g1.out _).mono ?_;rintro e w1⟨rfl,ah⟩;go_wp2_with fail
 refine(g2.out _).mono ?_;rintro e w2⟨rfl,ag⟩;go_wp2;go_ret
 exact⟨by rw [← aa.out];rfl,zh ah ag⟩
def JQ(r:Option (UInt8×Int×Nat×List UInt8))(w:World)(e:Ending)(w':World):Prop:=
 ∃a b c d,e=.returned (.tuple #[.agg #[.int .u8 a,.int .i64 b,.int .u64 c,.string d],.bool r.isSome])/\(∀k i n x,r=some (k,i,n,x)->a=k.toNat/\b=i/\c=n/\d=bs x)/\Below w.heap.size w w'
theorem Yw(s:List UInt8):((s.drop 5).take 8).take 4=(s.drop 5).take 4/\((s.drop 5).take 8).drop 4=(s.drop 9).take 4:=by
 constructor
 ·rw [List.take_take];rfl
 rw [List.drop_take,List.drop_drop]
theorem zgv(s:List UInt8)(hl:s.length<=1073741824)(w:World):Calls prog 212 #[.string (bs s)] w (JQ (jL s) w):=by
 have af:=zL s
 by_cases h5:s.length<5
 ·have hr:jL s=none:=by unfold jL;rw [if_pos h5]
  rw [hr];have t0:decide (((bs s).size:Int)<5)=true:=by rw [af];simp;omega
  replace af:=hid af;replace hr:=hid hr
  go_enter func212,ntmps212
  go_wp2;exact bodyPost_ret (v:=.tuple #[.agg #[.int .u8 0,.int .i64 0,.int .u64 0,.string ⟨#[]⟩],.bool false]) (by simp [results,Tryz.results212,go_sem]) rfl ⟨0,0,0,⟨#[]⟩,rfl,by simp,pbx⟩
 have t0:decide (((bs s).size:Int)<5)=false:=by rw [af];simp;omega
 have b5:(5:Int)<=((bs s).size:Int):=by omega
 have bm:0<(bs s).size:=by omega
 obtain⟨x,hx⟩:∃x,(bs s)[0]=x:=⟨_,rfl⟩
 have a9:s.head?=some x:=by
  cases s with
  |nil=>simp at h5
  |cons y s=>exact congrArg some hx
 have bi:=yC s 1 5;rw [show 5 - 1=4 from rfl] at bi;have bg:((s.drop 1).take 4).length=4:=by rw [N7,U3];omega
 have ac:jL s=if 10000<yy ((s.drop 1).take 4)∨zR (yy ((s.drop 1).take 4))=false then none
  else if s.head?=some 100 then(if(s.drop 5).length<=4000 then some (100,(yy ((s.drop 1).take 4):Int),0,s.drop 5)else none)
  else if s.head?=some 112∨s.head?=some 118 then
   (if s.length<13 then none
    else if s.head?=some 112/\s.drop 13≠ [] then none
    else if 1<=yy ((s.drop 5).take 4)+4294967296*yy ((s.drop 9).take 4)/\(s.drop 13).length<=4000 then some (s.head?.getD 0,(yy ((s.drop 1).take 4):Int),yy ((s.drop 5).take 4)+4294967296*yy ((s.drop 9).take 4),s.drop 13)else none)
  else none:=by unfold jL;rw [if_neg h5]
 rw [a9] at ac;simp only [Option.some.injEq,Option.getD_some] at ac
 generalize(s.drop 1).take 4=d at*
 have ad:=λW=>ql d (by omega) W
 rw [xf bg] at ad;have bn:=xx d
 generalize yy d=n at*
 have aj:=λW=>Y4 (n:Int) W
 have bt:IntKind.i64.wrap (n:Int)=n:=by rw [N8];omega
 have c5:¬(bs s).size<5:=by omega
 replace ad:=hid ad;replace a9:=hid a9
 by_cases hbad:10000<n∨zR (n:Int)=false
 ·rw [if_pos hbad] at ac
  rw [ac];replace ac:=hid ac;replace af:=hid af
  by_cases h1:10000<n
  ·have t1:decide ((10000:Int)<(n:Int))=true:=by simp;omega
   replace aj:=hid aj;clear hbad
   go_enter func212,ntmps212
   go_wp2_with fail
   refine(ad.out _).mono ?_;rintro e w1⟨rfl,ai⟩;have k1:Blk w1 w.heap.size #[.int .u8 0,.int .i64 0,.int .u64 0,.string ⟨#[]⟩] 337:=Blk.call (bkx) ai;have c1:=k1.cell;have f1:=k1.frozen;have l1:=k1.lt;have ah:Below w.heap.size w w1:=pbx;have rr:=(((((k1).set (o:=0) (.int .u8 0)).set (o:=1) (.int .i64 0)).set (o:=2) (.int .u64 0)).set (o:=3) (.string ⟨#[]⟩)).cell;go_wp2;exact bodyPost_ret (v:=.tuple #[.agg #[.int .u8 0,.int .i64 0,.int .u64 0,.string ⟨#[]⟩],.bool false]) (by simp [results,Tryz.results212,go_sem,rr]) rfl ⟨0,0,0,⟨#[]⟩,rfl,by simp,zn (zn (zn (zn ah (by simp) _) (by simp) _) (by simp) _) (by simp) _⟩
  have t1:decide ((10000:Int)<(n:Int))=false:=by simp;omega
  rw [hbad.resolve_left h1] at aj;replace aj:=hid aj;clear hbad
  go_enter func212,ntmps212
  go_wp2_with fail
  refine(ad.out _).mono ?_;rintro e w1⟨rfl,ai⟩;have k1:Blk w1 w.heap.size #[.int .u8 0,.int .i64 0,.int .u64 0,.string ⟨#[]⟩] 337:=Blk.call (bkx) ai;have c1:=k1.cell;have f1:=k1.frozen;have l1:=k1.lt;have ah:Below w.heap.size w w1:=pbx;go_wp2_with fail
  refine(aj.out _).mono ?_;rintro e w2⟨rfl,al⟩;obtain rfl:=al.symm;have rr:=(((((k1).set (o:=0) (.int .u8 0)).set (o:=1) (.int .i64 0)).set (o:=2) (.int .u64 0)).set (o:=3) (.string ⟨#[]⟩)).cell;go_wp2;exact bodyPost_ret (v:=.tuple #[.agg #[.int .u8 0,.int .i64 0,.int .u64 0,.string ⟨#[]⟩],.bool false]) (by simp [results,Tryz.results212,go_sem,rr]) rfl ⟨0,0,0,⟨#[]⟩,rfl,by simp,zn (zn (zn (zn ah (by simp) _) (by simp) _) (by simp) _) (by simp) _⟩
 rw [if_neg hbad] at ac
 have a7:zR (n:Int)=true:=by cases h:zR (n:Int);exact absurd (.inr h) hbad;rfl
 have bo:¬10000<n:=λh=>hbad (.inl h)
 have t1:decide ((10000:Int)<(n:Int))=false:=by simp;omega
 rw [a7] at aj;replace aj:=hid aj;replace a7:=hid a7;clear hbad
 by_cases hx1:x=100
 ·subst hx1
  rw [if_pos rfl] at ac;have bd:=ju s 5;have hv:=zL (s.drop 5);have t2:(((100:UInt8).toNat:Int)==100)=true:=rfl
  generalize s.drop 5=v at*
  have t4:decide (((bs v).size:Int)<=4000)=decide (v.length<=4000):=by rw [hv];exact decide_eq_decide.2 (by omega)
  replace af:=hid af;replace hv:=hid hv;replace ac:=hid ac;clear c5
  go_enter func212,ntmps212
  go_wp2_with fail
  refine(ad.out _).mono ?_;rintro e w1⟨rfl,ai⟩;have k1:Blk w1 w.heap.size #[.int .u8 0,.int .i64 0,.int .u64 0,.string ⟨#[]⟩] 337:=Blk.call (bkx) ai;have c1:=k1.cell;have f1:=k1.frozen;have l1:=k1.lt;have ah:Below w.heap.size w w1:=pbx;go_wp2_with fail
  refine(aj.out _).mono ?_;rintro e w2⟨rfl,al⟩;obtain rfl:=al.symm;go_wp2_with fail
  have kA:Blk (w1.alloc (.cells #[.int .u8 100,.int .i64 n,.int .u64 0,.string (bs v)] 337)) w1.heap.size #[.int .u8 100,.int .i64 n,.int .u64 0,.string (bs v)] 337:=Blk.new rfl;have kT:=k1.alloc (.cells #[.int .u8 100,.int .i64 n,.int .u64 0,.string (bs v)] 337);have bl:=zi ah (.cells #[.int .u8 100,.int .i64 n,.int .u64 0,.string (bs v)] 337);have aa:w1.heap.size≠w.heap.size:=by omega
  have au:Hid ((jL s).isSome=decide (v.length<=4000)):=by
   have h:=ac.out
   by_cases hv4:v.length<=4000
   ·rw [if_pos hv4] at h;show(jL s).isSome=_;rw [h];simp [hv4]
   rw [if_neg hv4] at h;show(jL s).isSome=_;rw [h];simp [hv4]
  have ak:Hid (∀k i m y,jL s=some (k,i,m,y)->(100:Int)=k.toNat/\(n:Int)=i/\(0:Int)=m/\bs v=bs y):=by
   intro k i m y h;have h2:=ac.out;rw [h] at h2
   split at h2
   ·cases h2;exact⟨rfl,rfl,rfl,rfl⟩
   cases h2
  refine zd [O 0,O 1,O 2,O 3,O 4,E 5,O 6] none (λw'=>Blk w' w1.heap.size #[.int .u8 100,.int .i64 n,.int .u64 0,.string (bs v)] 337/\True) ⟨kA.drew,trivial⟩ ?_
  refine Wb ?_
  refine zc rfl (λK hK=>?_);have cT:=kT.cell;have fT:=kT.frozen;have lT:=kT.lt;go_wp2;refine hK.out _ _ (λ_=>⟨Blk.drew (Blk.new (by simp)),trivial⟩) ?_;clear hK K
  refine Wb ?_
  refine ze ?_;have rr:=(((((k1.set (o:=0) (.int .u8 100)).set (o:=1) (.int .i64 n)).set (o:=2) (.int .u64 0)).set (o:=3) (.string (bs v))).alloc (.cells #[.int .u8 100,.int .i64 n,.int .u64 0,.string (bs v)] 337)).cell;have aw:=zq (zi (zn (zn (zn (zn ah (p:=⟨w.heap.size,0,none⟩) (by simp) (.int .u8 100)) (p:=⟨w.heap.size,1,none⟩) (by simp) (.int .i64 n)) (p:=⟨w.heap.size,2,none⟩) (by simp) (.int .u64 0)) (p:=⟨w.heap.size,3,none⟩) (by simp) (.string (bs v))) (.cells #[.int .u8 100,.int .i64 n,.int .u64 0,.string (bs v)] 337));go_wp2;exact bodyPost_ret (v:=.tuple #[.agg #[.int .u8 100,.int .i64 n,.int .u64 0,.string (bs v)],.bool (decide<|v.length<=4000)]) (by simp [results,Tryz.results212,go_sem,rr]) rfl ⟨100,n,0,bs v,by rw [au.out],ak.out,aw⟩
 rw [if_neg hx1] at ac
 have t2:((x.toNat:Int)==100)=false:=by
  simp only [beq_eq_false_iff_ne,ne_eq];intro hc;exact hx1 (UInt8.toNat_inj.1 (by simpa using(by omega:x.toNat=100)))
 by_cases hx2:x=112
 ·subst hx2
  rw [if_pos (.inl rfl)] at ac;have t3:(((112:UInt8).toNat:Int)==112)=true:=rfl;have bj:(((112:UInt8).toNat:Int)==100)=false:=rfl;clear t2 hx1
  by_cases h13:s.length<13
  ·rw [if_pos h13] at ac
   rw [ac];have t4:decide (((bs s).size:Int)<13)=true:=by rw [af];simp;omega
   replace af:=hid af;replace ac:=hid ac;clear c5
   go_enter func212,ntmps212
   go_wp2_with fail
   refine(ad.out _).mono ?_;rintro e w1⟨rfl,ai⟩;have k1:Blk w1 w.heap.size #[.int .u8 0,.int .i64 0,.int .u64 0,.string ⟨#[]⟩] 337:=Blk.call (bkx) ai;have c1:=k1.cell;have f1:=k1.frozen;have l1:=k1.lt;have ah:Below w.heap.size w w1:=pbx;go_wp2_with fail
   refine(aj.out _).mono ?_;rintro e w2⟨rfl,al⟩;obtain rfl:=al.symm;have rr:=(((((k1.set (o:=0) (.int .u8 0)).set (o:=1) (.int .i64 0)).set (o:=2) (.int .u64 0)).set (o:=3) (.string ⟨#[]⟩)).alloc (.cells #[.int .u8 112,.int .i64 n,.int .u64 0,.string ⟨#[]⟩] 337)).cell;go_wp2;exact bodyPost_ret (v:=.tuple #[.agg #[.int .u8 0,.int .i64 0,.int .u64 0,.string ⟨#[]⟩],.bool false]) (by simp [results,Tryz.results212,go_sem,rr]) rfl ⟨0,0,0,⟨#[]⟩,rfl,by simp,zi (zn (zn (zn (zn ah (by simp) _) (by simp) _) (by simp) _) (by simp) _) _⟩
  rw [if_neg h13] at ac
  have t4:decide (((bs s).size:Int)<13)=false:=by rw [af];simp;omega
  have bf:(13:Int)<=((bs s).size:Int):=by omega
  have bh:¬(bs s).size<13:=by omega
  have ba:=yC s 5 13;rw [show 13 - 5=8 from rfl] at ba;have a1:((s.drop 5).take 8).length=8:=by rw [N7,U3];omega
  have ag:=λW=>zaf ((s.drop 5).take 8) a1 W
  rw [(Yw s).1,(Yw s).2] at ag;have bd:=ju s 13;have hv:=zL (s.drop 13);have a8:(bs (s.drop 13)).toList.isEmpty=(s.drop 13).isEmpty:=by rw [yQ]
  generalize(s.drop 5).take 8=u at*
  generalize yy ((s.drop 5).take 4)+4294967296*yy ((s.drop 9).take 4)=m at*
  generalize s.drop 13=v at*
  have t6:decide (((bs v).size:Int)<=4000)=decide (v.length<=4000):=by rw [hv];exact decide_eq_decide.2 (by omega)
  replace ag:=hid ag;replace af:=hid af;replace hv:=hid hv;replace a1:=hid a1;clear c5
  by_cases hve:v=[]
  ·rw [if_neg (by simp [hve])] at ac
   have az:v.isEmpty=true:=by simp [hve]
   rw [az] at a8;replace hve:=hid hve;replace az:=hid az;replace ac:=hid ac
   have au:Hid ((jL s).isSome=(decide (1<=m)&& decide (v.length<=4000))):=by
    have h:=ac.out
    by_cases hv4:1<=m/\v.length<=4000
    ·rw [if_pos hv4] at h;show(jL s).isSome=_;rw [h];simp [hv4.1,hv4.2]
    rw [if_neg hv4] at h;show(jL s).isSome=_;rw [h]
    rw [Classical.not_and_iff_not_or_not] at hv4
    rcases hv4 with h1|h1<;>simp [h1]
   have ak:Hid (∀k i m' y,jL s=some (k,i,m',y)->(112:Int)=k.toNat/\(n:Int)=i/\(m:Int)=m'/\bs v=bs y):=by
    intro k i m' y h;have h2:=ac.out;rw [h] at h2
    split at h2
    ·cases h2;exact⟨rfl,rfl,rfl,rfl⟩
    cases h2
   have a6:decide ((1:Int)<=(m:Int))=decide (1<=m):=decide_eq_decide.2 (by omega)
   go_enter func212,ntmps212
   go_wp2_with fail
   refine(ad.out _).mono ?_;rintro e w1⟨rfl,ai⟩;have k1:Blk w1 w.heap.size #[.int .u8 0,.int .i64 0,.int .u64 0,.string ⟨#[]⟩] 337:=Blk.call (bkx) ai;have c1:=k1.cell;have f1:=k1.frozen;have l1:=k1.lt;have ah:Below w.heap.size w w1:=pbx;go_wp2_with fail
   refine(aj.out _).mono ?_;rintro e w2⟨rfl,al⟩;obtain rfl:=al.symm;have ax:Blk (w1.alloc (.cells #[.int .u8 112,.int .i64 n,.int .u64 0,.string ⟨#[]⟩] 337)) w1.heap.size #[.int .u8 112,.int .i64 n,.int .u64 0,.string ⟨#[]⟩] 337:=Blk.new rfl;go_wp2_with fail
   refine(ag.out _).mono ?_;rintro e w3⟨rfl,an⟩;have ao:=ax.call an;have am:=(k1.alloc (.cells #[.int .u8 112,.int .i64 n,.int .u64 0,.string ⟨#[]⟩] 337)).call an;have ar:Below w.heap.size w w3:=zh (zi ah _) an;have a5:w.heap.size<w1.heap.size:=by omega
   have aa:w1.heap.size≠w.heap.size:=by omega
   clear c1 f1 l1 ax k1 an;have ap:=(ao.set (o:=2) (.int .u64 m)).set (o:=3) (.string (bs v));have ae:=(am.other (p:=⟨w1.heap.size,2,none⟩) (Ne.symm aa) (.int .u64 m)).other (p:=⟨w1.heap.size,3,none⟩) (Ne.symm aa) (.string (bs v));have ay:Below w.heap.size w ((w3.setCell ⟨w1.heap.size,2,none⟩ (.int .u64 m)).setCell ⟨w1.heap.size,3,none⟩ (.string (bs v))):=zn (zn ar (p:=⟨w1.heap.size,2,none⟩) (by simp;omega) _) (p:=⟨w1.heap.size,3,none⟩) (by simp;omega) _;have a4:=ao.cell;have a2:=ao.frozen;have bc:=ao.lt;have aq:=am.cell;have a3:=am.frozen;have be:=am.lt;have bb:=ap.cell
   cases h1m:decide (1<=m)
   ·
     rw [h1m] at a6 au;replace h1m:=hid h1m;go_wp2_with fail
     refine zd [O 0,O 1,O 2,O 3,O 4,O 5,O 6,O 7,O 8,O 9,E 10,O 11] none (λw'=>Blk w' w1.heap.size #[.int .u8 112,.int .i64 n,.int .u64 m,.string (bs v)] 337/\True) ⟨ap.drew,trivial⟩ ?_;clear a4 a2 aq a3
     refine Wb ?_
     refine Wj ?_
     refine Wb ?_
     refine zc rfl (λK hK=>?_);have cT:=ae.cell;have fT:=ae.frozen;have lT:=ae.lt;go_wp2;have a0:=(((ap.other (p:=⟨w.heap.size,0,none⟩) aa (.int .u8 112)).other (p:=⟨w.heap.size,1,none⟩) aa (.int .i64 n)).other (p:=⟨w.heap.size,2,none⟩) aa (.int .u64 m)).other (p:=⟨w.heap.size,3,none⟩) aa (.string (bs v));refine hK.out _ _ (λ_=>⟨a0.drew,trivial⟩) ?_;clear hK K
     refine Wb ?_
     refine ze ?_;have rr:=((((ae.set (o:=0) (.int .u8 112)).set (o:=1) (.int .i64 n)).set (o:=2) (.int .u64 m)).set (o:=3) (.string (bs v))).cell;have aw:=zq (zn (zn (zn (zn ay (p:=⟨w.heap.size,0,none⟩) (by simp) (.int .u8 112)) (p:=⟨w.heap.size,1,none⟩) (by simp) (.int .i64 n)) (p:=⟨w.heap.size,2,none⟩) (by simp) (.int .u64 m)) (p:=⟨w.heap.size,3,none⟩) (by simp) (.string (bs v)));go_wp2;exact bodyPost_ret (v:=.tuple #[.agg #[.int .u8 112,.int .i64 n,.int .u64 m,.string (bs v)],.bool false]) (by simp [results,Tryz.results212,go_sem,rr]) rfl ⟨112,n,m,bs v,by rw [au.out];rfl,ak.out,aw⟩
   
   rw [h1m] at a6 au;replace h1m:=hid h1m;go_wp2_with fail
   refine zd [O 0,O 1,O 2,O 3,O 4,O 5,O 6,O 7,O 8,O 9,E 10,O 11] none (λw'=>Blk w' w1.heap.size #[.int .u8 112,.int .i64 n,.int .u64 m,.string (bs v)] 337/\True) ⟨ap.drew,trivial⟩ ?_;clear a4 a2 aq a3
   refine Wb ?_
   refine Wj ?_
   refine Wb ?_
   refine zc rfl (λK hK=>?_);have cT:=ae.cell;have fT:=ae.frozen;have lT:=ae.lt;go_wp2;have a0:=(((ap.other (p:=⟨w.heap.size,0,none⟩) aa (.int .u8 112)).other (p:=⟨w.heap.size,1,none⟩) aa (.int .i64 n)).other (p:=⟨w.heap.size,2,none⟩) aa (.int .u64 m)).other (p:=⟨w.heap.size,3,none⟩) aa (.string (bs v));refine hK.out _ _ (λ_=>⟨a0.drew,trivial⟩) ?_;clear hK K
   refine Wb ?_
   refine ze ?_;have rr:=((((ae.set (o:=0) (.int .u8 112)).set (o:=1) (.int .i64 n)).set (o:=2) (.int .u64 m)).set (o:=3) (.string (bs v))).cell;have aw:=zq (zn (zn (zn (zn ay (p:=⟨w.heap.size,0,none⟩) (by simp) (.int .u8 112)) (p:=⟨w.heap.size,1,none⟩) (by simp) (.int .i64 n)) (p:=⟨w.heap.size,2,none⟩) (by simp) (.int .u64 m)) (p:=⟨w.heap.size,3,none⟩) (by simp) (.string (bs v)));go_wp2;exact bodyPost_ret (v:=.tuple #[.agg #[.int .u8 112,.int .i64 n,.int .u64 m,.string (bs v)],.bool (decide<|v.length<=4000)]) (by simp [results,Tryz.results212,go_sem,rr]) rfl ⟨112,n,m,bs v,by rw [au.out];rfl,ak.out,aw⟩
  rw [if_pos ⟨rfl,hve⟩] at ac
  rw [ac];have az:v.isEmpty=false:=by simp [hve]
  rw [az] at a8;replace hve:=hid hve;replace az:=hid az;replace ac:=hid ac
  go_enter func212,ntmps212
  go_wp2_with fail
  refine(ad.out _).mono ?_;rintro e w1⟨rfl,ai⟩;have k1:Blk w1 w.heap.size #[.int .u8 0,.int .i64 0,.int .u64 0,.string ⟨#[]⟩] 337:=Blk.call (bkx) ai;have c1:=k1.cell;have f1:=k1.frozen;have l1:=k1.lt;have ah:Below w.heap.size w w1:=pbx;go_wp2_with fail
  refine(aj.out _).mono ?_;rintro e w2⟨rfl,al⟩;obtain rfl:=al.symm;have ax:Blk (w1.alloc (.cells #[.int .u8 112,.int .i64 n,.int .u64 0,.string ⟨#[]⟩] 337)) w1.heap.size #[.int .u8 112,.int .i64 n,.int .u64 0,.string ⟨#[]⟩] 337:=Blk.new rfl;go_wp2_with fail
  refine(ag.out _).mono ?_;rintro e w3⟨rfl,an⟩;have ao:=ax.call an;have am:=(k1.alloc (.cells #[.int .u8 112,.int .i64 n,.int .u64 0,.string ⟨#[]⟩] 337)).call an;have ar:Below w.heap.size w w3:=zh (zi ah _) an;have a5:w.heap.size<w1.heap.size:=by omega
  have aa:w1.heap.size≠w.heap.size:=by omega
  clear c1 f1 l1 ax k1 an;have ap:=(ao.set (o:=2) (.int .u64 m)).set (o:=3) (.string (bs v));have ae:=(am.other (p:=⟨w1.heap.size,2,none⟩) (Ne.symm aa) (.int .u64 m)).other (p:=⟨w1.heap.size,3,none⟩) (Ne.symm aa) (.string (bs v));have ay:Below w.heap.size w ((w3.setCell ⟨w1.heap.size,2,none⟩ (.int .u64 m)).setCell ⟨w1.heap.size,3,none⟩ (.string (bs v))):=zn (zn ar (p:=⟨w1.heap.size,2,none⟩) (by simp;omega) _) (p:=⟨w1.heap.size,3,none⟩) (by simp;omega) _;have a4:=ao.cell;have a2:=ao.frozen;have bc:=ao.lt;have aq:=am.cell;have a3:=am.frozen;have be:=am.lt;have bb:=ap.cell;have br:=ae.cell;have bp:=ae.frozen;have bq:=ae.lt;have rr:=((((ae.set (o:=0) (.int .u8 0)).set (o:=1) (.int .i64 0)).set (o:=2) (.int .u64 0)).set (o:=3) (.string ⟨#[]⟩)).cell;go_wp2;exact bodyPost_ret (v:=.tuple #[.agg #[.int .u8 0,.int .i64 0,.int .u64 0,.string ⟨#[]⟩],.bool false]) (by simp [results,Tryz.results212,go_sem,rr]) rfl ⟨0,0,0,⟨#[]⟩,rfl,by simp,zn (zn (zn (zn ay (by simp) _) (by simp) _) (by simp) _) (by simp) _⟩
 by_cases hx3:x=118
 ·subst hx3
  rw [if_pos (.inr rfl)] at ac;have t3:(((118:UInt8).toNat:Int)==112)=false:=rfl;have bk:(((118:UInt8).toNat:Int)==118)=true:=rfl;clear t2 hx1 hx2
  by_cases h13:s.length<13
  ·rw [if_pos h13] at ac
   rw [ac];have t4:decide (((bs s).size:Int)<13)=true:=by rw [af];simp;omega
   replace af:=hid af;replace ac:=hid ac;clear c5
   go_enter func212,ntmps212
   go_wp2_with fail
   refine(ad.out _).mono ?_;rintro e w1⟨rfl,ai⟩;have k1:Blk w1 w.heap.size #[.int .u8 0,.int .i64 0,.int .u64 0,.string ⟨#[]⟩] 337:=Blk.call (bkx) ai;have c1:=k1.cell;have f1:=k1.frozen;have l1:=k1.lt;have ah:Below w.heap.size w w1:=pbx;go_wp2_with fail
   refine(aj.out _).mono ?_;rintro e w2⟨rfl,al⟩;obtain rfl:=al.symm;have rr:=(((((k1.set (o:=0) (.int .u8 0)).set (o:=1) (.int .i64 0)).set (o:=2) (.int .u64 0)).set (o:=3) (.string ⟨#[]⟩)).alloc (.cells #[.int .u8 118,.int .i64 n,.int .u64 0,.string ⟨#[]⟩] 337)).cell;go_wp2;exact bodyPost_ret (v:=.tuple #[.agg #[.int .u8 0,.int .i64 0,.int .u64 0,.string ⟨#[]⟩],.bool false]) (by simp [results,Tryz.results212,go_sem,rr]) rfl ⟨0,0,0,⟨#[]⟩,rfl,by simp,zi (zn (zn (zn (zn ah (by simp) _) (by simp) _) (by simp) _) (by simp) _) _⟩
  rw [if_neg h13] at ac
  have t4:decide (((bs s).size:Int)<13)=false:=by rw [af];simp;omega
  have bf:(13:Int)<=((bs s).size:Int):=by omega
  have bh:¬(bs s).size<13:=by omega
  have ba:=yC s 5 13;rw [show 13 - 5=8 from rfl] at ba;have a1:((s.drop 5).take 8).length=8:=by rw [N7,U3];omega
  have ag:=λW=>zaf ((s.drop 5).take 8) a1 W
  rw [(Yw s).1,(Yw s).2] at ag;have bd:=ju s 13;have hv:=zL (s.drop 13);have a8:(bs (s.drop 13)).toList.isEmpty=(s.drop 13).isEmpty:=by rw [yQ]
  generalize(s.drop 5).take 8=u at*
  generalize yy ((s.drop 5).take 4)+4294967296*yy ((s.drop 9).take 4)=m at*
  generalize s.drop 13=v at*
  have t6:decide (((bs v).size:Int)<=4000)=decide (v.length<=4000):=by rw [hv];exact decide_eq_decide.2 (by omega)
  replace ag:=hid ag;replace af:=hid af;replace hv:=hid hv;replace a1:=hid a1;clear c5;rw [if_neg (by simp)] at ac;replace ac:=hid ac
  have au:Hid ((jL s).isSome=(decide (1<=m)&& decide (v.length<=4000))):=by
   have h:=ac.out
   by_cases hv4:1<=m/\v.length<=4000
   ·rw [if_pos hv4] at h;show(jL s).isSome=_;rw [h];simp [hv4.1,hv4.2]
   rw [if_neg hv4] at h;show(jL s).isSome=_;rw [h]
   rw [Classical.not_and_iff_not_or_not] at hv4
   rcases hv4 with h1|h1<;>simp [h1]
  have ak:Hid (∀k i m' y,jL s=some (k,i,m',y)->(118:Int)=k.toNat/\(n:Int)=i/\(m:Int)=m'/\bs v=bs y):=by
   intro k i m' y h;have h2:=ac.out;rw [h] at h2
   split at h2
   ·cases h2;exact⟨rfl,rfl,rfl,rfl⟩
   cases h2
  have a6:decide ((1:Int)<=(m:Int))=decide (1<=m):=decide_eq_decide.2 (by omega)
  go_enter func212,ntmps212
  go_wp2_with fail
  refine(ad.out _).mono ?_;rintro e w1⟨rfl,ai⟩;have k1:Blk w1 w.heap.size #[.int .u8 0,.int .i64 0,.int .u64 0,.string ⟨#[]⟩] 337:=Blk.call (bkx) ai;have c1:=k1.cell;have f1:=k1.frozen;have l1:=k1.lt;have ah:Below w.heap.size w w1:=pbx;go_wp2_with fail
  refine(aj.out _).mono ?_;rintro e w2⟨rfl,al⟩;obtain rfl:=al.symm;have ax:Blk (w1.alloc (.cells #[.int .u8 118,.int .i64 n,.int .u64 0,.string ⟨#[]⟩] 337)) w1.heap.size #[.int .u8 118,.int .i64 n,.int .u64 0,.string ⟨#[]⟩] 337:=Blk.new rfl;go_wp2_with fail
  refine(ag.out _).mono ?_;rintro e w3⟨rfl,an⟩;have ao:=ax.call an;have am:=(k1.alloc (.cells #[.int .u8 118,.int .i64 n,.int .u64 0,.string ⟨#[]⟩] 337)).call an;have ar:Below w.heap.size w w3:=zh (zi ah _) an;have a5:w.heap.size<w1.heap.size:=by omega
  have aa:w1.heap.size≠w.heap.size:=by omega
  clear c1 f1 l1 ax k1 an;have ap:=(ao.set (o:=2) (.int .u64 m)).set (o:=3) (.string (bs v));have ae:=(am.other (p:=⟨w1.heap.size,2,none⟩) (Ne.symm aa) (.int .u64 m)).other (p:=⟨w1.heap.size,3,none⟩) (Ne.symm aa) (.string (bs v));have ay:Below w.heap.size w ((w3.setCell ⟨w1.heap.size,2,none⟩ (.int .u64 m)).setCell ⟨w1.heap.size,3,none⟩ (.string (bs v))):=zn (zn ar (p:=⟨w1.heap.size,2,none⟩) (by simp;omega) _) (p:=⟨w1.heap.size,3,none⟩) (by simp;omega) _;have a4:=ao.cell;have a2:=ao.frozen;have bc:=ao.lt;have aq:=am.cell;have a3:=am.frozen;have be:=am.lt;have bb:=ap.cell
  cases h1m:decide (1<=m)
  ·
    rw [h1m] at a6 au;replace h1m:=hid h1m;go_wp2_with fail
    refine zd [O 0,O 1,O 2,O 3,O 4,O 5,O 6,O 7,O 8,O 9,E 10,O 11] none (λw'=>Blk w' w1.heap.size #[.int .u8 118,.int .i64 n,.int .u64 m,.string (bs v)] 337/\True) ⟨ap.drew,trivial⟩ ?_;clear a4 a2 aq a3
    refine Wb ?_
    refine Wj ?_
    refine Wb ?_
    refine zc rfl (λK hK=>?_);have cT:=ae.cell;have fT:=ae.frozen;have lT:=ae.lt;go_wp2;have a0:=(((ap.other (p:=⟨w.heap.size,0,none⟩) aa (.int .u8 118)).other (p:=⟨w.heap.size,1,none⟩) aa (.int .i64 n)).other (p:=⟨w.heap.size,2,none⟩) aa (.int .u64 m)).other (p:=⟨w.heap.size,3,none⟩) aa (.string (bs v));refine hK.out _ _ (λ_=>⟨a0.drew,trivial⟩) ?_;clear hK K
    refine Wb ?_
    refine ze ?_;have rr:=((((ae.set (o:=0) (.int .u8 118)).set (o:=1) (.int .i64 n)).set (o:=2) (.int .u64 m)).set (o:=3) (.string (bs v))).cell;have aw:=zq (zn (zn (zn (zn ay (p:=⟨w.heap.size,0,none⟩) (by simp) (.int .u8 118)) (p:=⟨w.heap.size,1,none⟩) (by simp) (.int .i64 n)) (p:=⟨w.heap.size,2,none⟩) (by simp) (.int .u64 m)) (p:=⟨w.heap.size,3,none⟩) (by simp) (.string (bs v)));go_wp2;exact bodyPost_ret (v:=.tuple #[.agg #[.int .u8 118,.int .i64 n,.int .u64 m,.string (bs v)],.bool false]) (by simp [results,Tryz.results212,go_sem,rr]) rfl ⟨118,n,m,bs v,by rw [au.out];rfl,ak.out,aw⟩
  
  rw [h1m] at a6 au;replace h1m:=hid h1m;go_wp2_with fail
  refine zd [O 0,O 1,O 2,O 3,O 4,O 5,O 6,O 7,O 8,O 9,E 10,O 11] none (λw'=>Blk w' w1.heap.size #[.int .u8 118,.int .i64 n,.int .u64 m,.string (bs v)] 337/\True) ⟨ap.drew,trivial⟩ ?_;clear a4 a2 aq a3
  refine Wb ?_
  refine Wj ?_
  refine Wb ?_
  refine zc rfl (λK hK=>?_);have cT:=ae.cell;have fT:=ae.frozen;have lT:=ae.lt;go_wp2;have a0:=(((ap.other (p:=⟨w.heap.size,0,none⟩) aa (.int .u8 118)).other (p:=⟨w.heap.size,1,none⟩) aa (.int .i64 n)).other (p:=⟨w.heap.size,2,none⟩) aa (.int .u64 m)).other (p:=⟨w.heap.size,3,none⟩) aa (.string (bs v));refine hK.out _ _ (λ_=>⟨a0.drew,trivial⟩) ?_;clear hK K
  refine Wb ?_
  refine ze ?_;have rr:=((((ae.set (o:=0) (.int .u8 118)).set (o:=1) (.int .i64 n)).set (o:=2) (.int .u64 m)).set (o:=3) (.string (bs v))).cell;have aw:=zq (zn (zn (zn (zn ay (p:=⟨w.heap.size,0,none⟩) (by simp) (.int .u8 118)) (p:=⟨w.heap.size,1,none⟩) (by simp) (.int .i64 n)) (p:=⟨w.heap.size,2,none⟩) (by simp) (.int .u64 m)) (p:=⟨w.heap.size,3,none⟩) (by simp) (.string (bs v)));go_wp2;exact bodyPost_ret (v:=.tuple #[.agg #[.int .u8 118,.int .i64 n,.int .u64 m,.string (bs v)],.bool (decide<|v.length<=4000)]) (by simp [results,Tryz.results212,go_sem,rr]) rfl ⟨118,n,m,bs v,by rw [au.out];rfl,ak.out,aw⟩
 rw [if_neg (by simp [hx2,hx3])] at ac
 rw [ac]
 have t3:((x.toNat:Int)==112)=false:=by
  simp only [beq_eq_false_iff_ne,ne_eq];intro hc;exact hx2 (UInt8.toNat_inj.1 (by simpa using(by omega:x.toNat=112)))
 have t4:((x.toNat:Int)==118)=false:=by
  simp only [beq_eq_false_iff_ne,ne_eq];intro hc;exact hx3 (UInt8.toNat_inj.1 (by simpa using(by omega:x.toNat=118)))
 replace af:=hid af;replace ac:=hid ac;replace hx1:=hid hx1;replace hx2:=hid hx2;replace hx3:=hid hx3;clear c5
 go_enter func212,ntmps212
 go_wp2_with fail
 refine(ad.out _).mono ?_;rintro e w1⟨rfl,ai⟩;have k1:Blk w1 w.heap.size #[.int .u8 0,.int .i64 0,.int .u64 0,.string ⟨#[]⟩] 337:=Blk.call (bkx) ai;have c1:=k1.cell;have f1:=k1.frozen;have l1:=k1.lt;have ah:Below w.heap.size w w1:=pbx;go_wp2_with fail
 refine(aj.out _).mono ?_;rintro e w2⟨rfl,al⟩;obtain rfl:=al.symm;have rr:=(((((k1.set (o:=0) (.int .u8 0)).set (o:=1) (.int .i64 0)).set (o:=2) (.int .u64 0)).set (o:=3) (.string ⟨#[]⟩)).alloc (.cells #[.int .u8 x.toNat,.int .i64 n,.int .u64 0,.string ⟨#[]⟩] 337)).cell;go_wp2;exact bodyPost_ret (v:=.tuple #[.agg #[.int .u8 0,.int .i64 0,.int .u64 0,.string ⟨#[]⟩],.bool false]) (by simp [results,Tryz.results212,go_sem,rr]) rfl ⟨0,0,0,⟨#[]⟩,rfl,by simp,zi (zn (zn (zn (zn ah (by simp) _) (by simp) _) (by simp) _) (by simp) _) _⟩
