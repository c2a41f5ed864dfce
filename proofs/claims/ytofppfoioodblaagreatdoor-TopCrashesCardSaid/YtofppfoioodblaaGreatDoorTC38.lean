/- PARTS OF THE PROOF. -/
import Derived.Test.YtofppfoioodblaaGreatDoorTC37
set_option maxRecDepth 8000
set_option maxHeartbeats 4000000
open Go.Proofs.Tryz
namespace Go.Proofs.YtofppfoioodblaaGreatDoor
open Go Go.RowKit Go.Shelf Go.Extern.Stop Go.Stop Go.Extern
attribute [local go_sem] Oper.semAt_some zB zp
theorem zjy {f:Nat->Nat}{c:Nat} :∀(n:Nat),(∀j,j<n->f j<=c)->Zx f n<=n*c
 |0,_=>by simp [Zx]
 |n+1,h=>by
  have:=zjy n (λj hj=>h j (by omega));have:=h n (by omega);unfold Zx;rw [Nat.add_mul];omega
theorem Qp(a:Addr)(n v:Int)(xs ys:List Int)(lv lu:Value)(w:World)(he:jK w a)(hin:JF w lv 1 (λx=>[.int .i64 x]) xs/\xs.length<=9223372036854775807)(hjn:JF w lu 1 (λx=>[.int .i64 x]) ys/\ys.length<=9223372036854775807):
 Calls prog 4 #[.int .i64 n,.int .i64 v,lv,lu] w λe w'=>e=.returned (.bool true)/\Below w.heap.size w w':=by
 have a2:=zho a w he;have cl:=he.lt;obtain⟨bc,ct⟩:=hin;obtain⟨be,cq⟩:=hjn;obtain⟨la,lc,rfl,az⟩:=zjq bc;obtain⟨ja,jc,rfl,a6⟩:=zjq be;clear bc be;replace a2:=hid a2;replace az:=hid az;replace a6:=hid a6
 by_cases h1:n<1
 ·have t1:decide (n<1)=true:=by simpa using h1
  go_enter func4,ntmps4
  go_wp2_with fail
  refine a2.out.mono ?_;rintro e w1⟨rfl,aj⟩;go_wp2;go_ret
  exact⟨rfl,aj⟩
 by_cases h2:4<n
 ·have t1:decide (n<1)=false:=by simpa using h1
  have t2:decide (4<n)=true:=by simpa using h2
  go_enter func4,ntmps4
  go_wp2_with fail
  refine a2.out.mono ?_;rintro e w1⟨rfl,aj⟩;go_wp2;go_ret
  exact⟨rfl,aj⟩
 by_cases h3:v<1
 ·have t1:decide (n<1)=false:=by simpa using h1
  have t2:decide (4<n)=false:=by simpa using h2
  have t3:decide (v<1)=true:=by simpa using h3
  go_enter func4,ntmps4
  go_wp2_with fail
  refine a2.out.mono ?_;rintro e w1⟨rfl,aj⟩;go_wp2;go_ret
  exact⟨rfl,aj⟩
 by_cases h4:3<v
 ·have t1:decide (n<1)=false:=by simpa using h1
  have t2:decide (4<n)=false:=by simpa using h2
  have t3:decide (v<1)=false:=by simpa using h3
  have t4:decide (3<v)=true:=by simpa using h4
  go_enter func4,ntmps4
  go_wp2_with fail
  refine a2.out.mono ?_;rintro e w1⟨rfl,aj⟩;go_wp2;go_ret
  exact⟨rfl,aj⟩
 have t1:decide (n<1)=false:=by simpa using h1
 have t2:decide (4<n)=false:=by simpa using h2
 have t3:decide (v<1)=false:=by simpa using h3
 have t4:decide (3<v)=false:=by simpa using h4
 obtain⟨m,rfl⟩:∃m:Nat,n=m:=⟨n.toNat,by omega⟩;have hm:1<=m/\m<=4:=by omega
 have hv:known v=true:=by simp [known];omega
 have a7:=λW hW=>zfv a m (by omega) v 262144 hv (by omega) (by omega) [1] (λ_=>[]) W hW
 have bm:=zbq m xs ys;have bu:=zc7 hm.1 xs ys;have ah:=λl hl=>zbs (v:=v) (n:=m) (d:=[109]) (by omega) (by simp) l hl
 obtain⟨acc,g,S',hF,hC,ch,cf,bb⟩:=zgU (v:=v) (s:=zk v) (n:=m) (d:=[109]) hv (by omega) (by simp) bu (by omega) (r:=1000) (by omega);have hG:=(ah (jZ m xs ys) (by omega)).1;have bh:=hF.good rfl hG (by omega);obtain⟨⟨L,l1,l4⟩,l3,l5,Me,l6⟩:=hC.ends;have bg:S'.trace.length<=20000000:=by have:=bh.traceLe;omega
 obtain⟨kk,LL,bo⟩:∃kk LL,zu v kk LL S':=⟨_,_,bh⟩;have cf:Zx acc m<=30:=by omega
 have ba:∀j,j<m->acc j<=1000:=λj _=>by have:=bb j;omega
 have a4:=λi (hi:i<=m)=>zjy i (λj hj=>ba j (by omega))
 have am:=λW w0 B K ow (h:J6 [1] w0 B K _ ow W) he0=>h.fair (a:=a) (by simp) he0 hG hv 1000 (by omega) hF (by omega) (by omega)
 have a8:=λV W (hV:Src W V 5 S'.trace.length (S'.trace.flatMap jf)) hvb=>zeE m (by omega) S'.trace (by omega) l6 V W hV hvb
 clear hC ch l6;replace a7:=hid a7;replace ah:=hid ah;replace am:=hid am;replace a8:=hid a8;replace hG:=hid hG;replace bh:=hid bh;replace bo:=hid bo;replace hF:=hid hF;replace bu:=hid bu;replace bm:=hid bm;replace ba:=hid ba;replace a4:=hid a4;replace l1:=hid l1;replace l3:=hid l3;replace l4:=hid l4;replace l5:=hid l5;replace hv:=hid hv;replace bg:=hid bg
 go_enter func4,ntmps4
 go_wp2_with fail
 refine a2.out.mono ?_;rintro e w1⟨rfl,aj⟩;have aw:=he.below aj cl;have ap:=az.out.below aj;have al:=a6.out.below aj;replace ap:=hid ap;replace al:=hid al;replace aj:=hid aj;go_wp2_with fail
 refine(a7.out _ aw).mono ?_;rintro e w2⟨B,K,bf,rfl,b9, -,b4, -⟩;have bi:J6 [1] w1 B K (vx (zk v) [109] (Z7 m v 262144 (zk v)) ((jZ m xs ys).take 0)) bf w2:=⟨b9,b4⟩;clear b9 b4;replace bi:=hid bi;go_wp2
 go_loopw [12] (λp12 wr=>∃(k:Nat)(ow':Own),p12=.int .i64 (k:Nat)/\k<=30/\k<=xs.length/\J6 [1] w1 B K (vx (zk v) [109] (Z7 m v 262144 (zk v)) ((jZ m xs ys).take k)) ow' wr) (λp12 _=>xs.length - (intOf p12).toNat)
 case atStart=>exact⟨0,bf,rfl,by omega,Nat.zero_le _,bi.out⟩
 case round=>
  obtain⟨k,bf,rfl,cc,hk,h2⟩:=hrel;clear bi
  by_cases hlt:k<xs.length/\k<30
  ·have t1:decide ((k:Int)<(xs.length:Int))=true:=by simp;omega
   have t2:decide ((k:Int)<30)=true:=by simp;omega
   have cn:IntKind.i64.wrap ((k:Int)+1)=(k:Int)+1:=by rw [N8];omega
   have y0:(0:Int)<=(k:Int):=by omega
   have y1:(k:Int)<(xs.length:Int):=by omega
   have cs:IntKind.u64.wrap (m:Int)=(m:Int):=by rw [IntKind.wrap_u64];omega
   obtain⟨x,hx⟩:∃x,xs[k]?=some x:=⟨_,N3 hlt.1⟩;have b6:=h2.bel (by simp);obtain⟨b,cp,rfl,c0⟩:=(ap.out.below b6) k x hx;obtain⟨ci,ck⟩:=zjp (n:=m) (by omega) x;have bk:=QM (n:=m) (ys:=ys) hlt.2 hx;obtain⟨i,hi⟩:∃i,zlW m x=i:=⟨_,rfl⟩;rw [hi] at ci ck bk;have cg:IntKind.i64.wrap (i:Int)=(i:Int):=by rw [N8];omega
   have cr:((m:Int)==0)=false:=by simp;omega
   have bl:((jZ m xs ys).take k).length=k:=by rw [N7,bm.out];omega
   obtain⟨aq,ay⟩:=ah.out ((jZ m xs ys).take k) (by rw [bl];omega);rw [bl] at aq;have au:=YF (zk v) [109] (Z7 m v 262144 (zk v)) ((jZ m xs ys).take k) (i,(ys[k]?).map zhp);rw [← bk] at au;obtain⟨S0,bt⟩:∃S0,vx (zk v) [109] (Z7 m v 262144 (zk v)) ((jZ m xs ys).take k)=S0:=⟨_,rfl⟩;rw [bt] at aq ay au h2;replace bt:=hid bt;replace bk:=hid bk;replace bl:=hid bl;replace hx:=hid hx;replace hi:=hid hi
   by_cases hc:k<ys.length
   ·have t3:decide ((k:Int)<(ys.length:Int))=true:=by simpa using hc
    have y2:(k:Int)<(ys.length:Int):=by omega
    obtain⟨y,hy⟩:∃y,ys[k]?=some y:=⟨_,N3 hc⟩;obtain⟨b2,cj,rfl,c2⟩:=(al.out.below b6) k y hy;have bq:=zkS y;rw [hy,Option.map_some] at au;obtain⟨c,b0⟩:∃c,zhp y=c:=⟨_,rfl⟩;rw [b0] at bq au;have q0:=h2.doesB (by simp) aw aq (by omega) ⟨8,i,c,0,0,[]⟩ (.inr rfl) ⟨by simp,by rw [ay];simp only;omega⟩;have ai:=aq.doesB ⟨8,i,c,0,0,[]⟩ (.inr rfl);have ag:=JC (zk v) S0 ⟨8,i,c,0,0,[]⟩;rw [ay] at ag;have aa:=au.symm;unfold xY at aa;simp only at aa;obtain⟨S1,br⟩:∃S1,(doW (zk v) S0 ⟨8,i,c,0,0,[]⟩).1=S1:=⟨_,rfl⟩;obtain⟨r1,b1⟩:∃r,(doW (zk v) S0 ⟨8,i,c,0,0,[]⟩).2=r:=⟨_,rfl⟩;rw [br] at aa ai ag q0;rw [b1] at q0;clear au;replace br:=hid br;replace b1:=hid b1;replace hy:=hid hy;replace b0:=hid b0;replace aq:=hid aq;replace ay:=hid ay;replace h2:=hid h2;replace aa:=hid aa;replace ai:=hid ai;replace ag:=hid ag;go_wp2_with fail
    refine q0.mono ?_;rintro e w3⟨rfl,cw,h3⟩;clear q0;have aa:=aa.out;have ai:=ai.out;have ag:=ag.out;have q1:=h3.doesA (by simp) aw ai (by omega) (by omega) hv.out ⟨1,i,0,0,0,[109]⟩ ⟨by simp,by simp,by simp⟩ (.inl rfl) (λ_=>⟨by simp,by rw [ag];simp only;omega⟩);have ae:=ai.doesA (by omega) ⟨1,i,0,0,0,[109]⟩ (by simp) (.inl rfl);have ak:=JC (zk v) S1 ⟨1,i,0,0,0,[109]⟩;rw [ag] at ak;have ac:(doW (zk v) (doW (zk v) (doW (zk v) S1 ⟨1,i,0,0,0,[109]⟩).1 ⟨7,i,0,0,0,[]⟩).1 ⟨9,i,0,0,0,[]⟩).1=vx (zk v) [109] (Z7 m v 262144 (zk v)) ((jZ m xs ys).take (k+1)):=aa;obtain⟨S2,af⟩:∃S2,(doW (zk v) S1 ⟨1,i,0,0,0,[109]⟩).1=S2:=⟨_,rfl⟩;obtain⟨r2,a0⟩:∃r,(doW (zk v) S1 ⟨1,i,0,0,0,[109]⟩).2=r:=⟨_,rfl⟩;rw [af] at ac ae ak q1;rw [a0] at q1;replace af:=hid af;replace a0:=hid a0;replace ai:=hid ai;replace ae:=hid ae;replace ag:=hid ag;replace ak:=hid ak;replace ac:=hid ac;replace aa:=hid aa;replace h3:=hid h3;go_wp2_with fail
    refine q1.mono ?_;rintro e w4⟨rfl,b7,h4⟩;clear q1;have q2:=h4.doesB (by simp) aw ae.out (by omega) ⟨7,i,0,0,0,[]⟩ (.inl rfl) ⟨by simp,by rw [ak.out];simp only;omega⟩;have ax:=ae.out.doesB ⟨7,i,0,0,0,[]⟩ (.inl rfl);have an:=JC (zk v) S2 ⟨7,i,0,0,0,[]⟩;rw [ak.out] at an;have ac:=ac.out;obtain⟨S3,a1⟩:∃S3,(doW (zk v) S2 ⟨7,i,0,0,0,[]⟩).1=S3:=⟨_,rfl⟩;obtain⟨r3,a3⟩:∃r,(doW (zk v) S2 ⟨7,i,0,0,0,[]⟩).2=r:=⟨_,rfl⟩;rw [a1] at ac ax an q2;rw [a3] at q2;replace a1:=hid a1;replace a3:=hid a3;replace ax:=hid ax;replace an:=hid an;replace ac:=hid ac;replace h4:=hid h4;go_wp2_with fail
    refine q2.mono ?_;rintro e w5⟨rfl,cd,h5⟩;clear q2;have q3:=h5.doesA (by simp) aw ax.out (by omega) (by omega) hv.out ⟨9,i,0,0,0,[]⟩ ⟨by simp,by simp,by simp⟩ (.inr (.inr (.inr (.inl rfl)))) (λ_=>⟨by simp,by rw [an.out];simp only;omega⟩);rw [ac.out] at q3;obtain⟨r4,a5⟩:∃r,(doW (zk v) S3 ⟨9,i,0,0,0,[]⟩).2=r:=⟨_,rfl⟩;rw [a5] at q3;replace a5:=hid a5;replace h5:=hid h5;go_wp2_with fail
    refine q3.mono ?_;rintro e w6⟨rfl,bv,h6⟩;clear q3;go_wp2
    go_roundw
    case rel=>exact⟨k+1,bv,by simp,by omega,by omega,h6⟩
    case measure=>simp [intOf];omega
   have t3:decide ((k:Int)<(ys.length:Int))=false:=by simpa using hc
   have hy:ys[k]?=none:=List.getElem?_eq_none (by omega);rw [hy,Option.map_none] at au;have aa:=au.symm;unfold xY at aa;simp only at aa;obtain⟨S1,rfl⟩:∃S1,S1=S0:=⟨_,rfl⟩;have h3:=h2;have ai:=aq.mono (Nat.le_succ _) (Nat.le_add_right _ 16);have ag:=ay;clear au h2;replace hy:=hid hy;replace aq:=hid aq;replace ay:=hid ay;have q1:=h3.doesA (by simp) aw ai (by omega) (by omega) hv.out ⟨1,i,0,0,0,[109]⟩ ⟨by simp,by simp,by simp⟩ (.inl rfl) (λ_=>⟨by simp,by rw [ag];simp only;omega⟩);have ae:=ai.doesA (by omega) ⟨1,i,0,0,0,[109]⟩ (by simp) (.inl rfl);have ak:=JC (zk v) S1 ⟨1,i,0,0,0,[109]⟩;rw [ag] at ak;have ac:(doW (zk v) (doW (zk v) (doW (zk v) S1 ⟨1,i,0,0,0,[109]⟩).1 ⟨7,i,0,0,0,[]⟩).1 ⟨9,i,0,0,0,[]⟩).1=vx (zk v) [109] (Z7 m v 262144 (zk v)) ((jZ m xs ys).take (k+1)):=aa;obtain⟨S2,af⟩:∃S2,(doW (zk v) S1 ⟨1,i,0,0,0,[109]⟩).1=S2:=⟨_,rfl⟩;obtain⟨r2,a0⟩:∃r,(doW (zk v) S1 ⟨1,i,0,0,0,[109]⟩).2=r:=⟨_,rfl⟩;rw [af] at ac ae ak q1;rw [a0] at q1;replace af:=hid af;replace a0:=hid a0;replace ai:=hid ai;replace ae:=hid ae;replace ag:=hid ag;replace ak:=hid ak;replace ac:=hid ac;replace aa:=hid aa;replace h3:=hid h3;go_wp2_with fail
   refine q1.mono ?_;rintro e w4⟨rfl,b7,h4⟩;clear q1;have q2:=h4.doesB (by simp) aw ae.out (by omega) ⟨7,i,0,0,0,[]⟩ (.inl rfl) ⟨by simp,by rw [ak.out];simp only;omega⟩;have ax:=ae.out.doesB ⟨7,i,0,0,0,[]⟩ (.inl rfl);have an:=JC (zk v) S2 ⟨7,i,0,0,0,[]⟩;rw [ak.out] at an;have ac:=ac.out;obtain⟨S3,a1⟩:∃S3,(doW (zk v) S2 ⟨7,i,0,0,0,[]⟩).1=S3:=⟨_,rfl⟩;obtain⟨r3,a3⟩:∃r,(doW (zk v) S2 ⟨7,i,0,0,0,[]⟩).2=r:=⟨_,rfl⟩;rw [a1] at ac ax an q2;rw [a3] at q2;replace a1:=hid a1;replace a3:=hid a3;replace ax:=hid ax;replace an:=hid an;replace ac:=hid ac;replace h4:=hid h4;go_wp2_with fail
   refine q2.mono ?_;rintro e w5⟨rfl,cd,h5⟩;clear q2;have q3:=h5.doesA (by simp) aw ax.out (by omega) (by omega) hv.out ⟨9,i,0,0,0,[]⟩ ⟨by simp,by simp,by simp⟩ (.inr (.inr (.inr (.inl rfl)))) (λ_=>⟨by simp,by rw [an.out];simp only;omega⟩);rw [ac.out] at q3;obtain⟨r4,a5⟩:∃r,(doW (zk v) S3 ⟨9,i,0,0,0,[]⟩).2=r:=⟨_,rfl⟩;rw [a5] at q3;replace a5:=hid a5;replace h5:=hid h5;go_wp2_with fail
   refine q3.mono ?_;rintro e w6⟨rfl,bv,h6⟩;clear q3;go_wp2
   go_roundw
   case rel=>exact⟨k+1,bv,by simp,by omega,by omega,h6⟩
   case measure=>simp [intOf];omega
  have b3:(jZ m xs ys).take k=jZ m xs ys:=List.take_of_length_le (by rw [bm.out];omega)
  rw [b3] at h2;replace b3:=hid b3
  by_cases h3:k<xs.length
  have t1:decide ((k:Int)<(xs.length:Int))=true:=by simpa using h3
  have t2:decide ((k:Int)<30)=false:=by simp;omega
  rotate_left
  have t1:decide ((k:Int)<(xs.length:Int))=false:=by simp;omega
  all_goals
   have q2:=am.out _ w1 B K bf h2 aw;clear h2;go_wp2_with fail
   refine q2.mono ?_;rintro e w4⟨rfl,b7,h4⟩;clear q2;have q3:=h4.traceAt (by have:=bg.out;omega);replace h4:=hid h4;go_wp2_with fail
   refine q3.mono ?_;rintro e w5⟨tv,rfl,ar,b8,ce⟩;clear q3;have q4:=a8.out _ _ ar.src (λa m c e=>ar.lt (by rw [e];rfl));obtain⟨ta,tc,rfl⟩:=ar.wideV.shape;have h5:=h4.out.below b8;clear ar ce b8 h4;replace h5:=hid h5;go_wp2_with fail
   refine q4.mono ?_;rintro e w6⟨rfl,b5⟩;have h6:=h5.out.below b5;clear q4 h5 b5;replace h6:=hid h6;go_wp2
   go_loopw [18,19] (λp18 p19 wr=>∃(i:Nat)(S2:zf)(ow':Own),p18=.int .i64 (Zx acc i:Nat)/\p19=.int .i64 (i:Nat)/\i<=m/\S2.nodes=S'.nodes/\S2.trace=S'.trace/\zu v kk LL S2/\J6 [1] w1 B K S2 ow' wr) (λ_ p19 _=>m - (intOf p19).toNat)
   case atStart=>exact⟨0,S',_,rfl,rfl,Nat.zero_le _,rfl,rfl,bo.out,h6.out⟩
   case round=>
    obtain⟨i,S2,cv,rfl,rfl,hi,af,bd,ae,h7⟩:=hrel;clear h6;have ao:S2.nodes.length=m:=by rw [af];exact l3.out
    by_cases hlt:i<m
    ·have t8:decide ((i:Int)<(m:Int))=true:=by simpa using hlt
     have bw:(zo S2 i).acc.length=acc i:=by
      have:zo S2 i=zo S' i:=by unfold zo;rw [af]
      rw [this];exact l5.out i hlt
     have bj:i<S2.nodes.length:=by omega
     obtain⟨b,q5⟩:=h7.accAt ae bj;rw [bw] at q5;have bz:=ae.lent bj;have co:=a4.out (i+1) (by omega)
     have cu:IntKind.i64.wrap ((Zx acc i:Nat)+(acc i:Nat):Int)=((Zx acc (i+1):Nat):Int):=by
      have:Zx acc (i+1)=Zx acc i+acc i:=rfl;rw [N8];omega
     have cg:IntKind.i64.wrap ((i:Int)+1)=(i:Int)+1:=by rw [N8];omega
     replace bw:=hid bw;replace af:=hid af;replace ao:=hid ao;replace bd:=hid bd;replace bj:=hid bj;replace ae:=hid ae;replace bz:=hid bz;replace h7:=hid h7;go_wp2_with fail
     refine q5.mono ?_;rintro e w8⟨rfl,h8,q6⟩;clear q5;replace h8:=hid h8;go_wp2_with fail
     refine q6.mono ?_;rintro e w9⟨v9,rfl,ad,bn, -⟩;obtain⟨a9,c9,rfl⟩:=ad.wideV.shape;clear q6;replace ad:=hid ad;go_wp2
     go_roundw
     case rel=>exact⟨i+1,zbm S2 i,_,rfl,by simp,by omega,af.out,bd.out,bz.out,h8.out.below bn⟩
     case measure=>simp [intOf];omega
    obtain rfl:i=m:=by omega
    have t8:decide ((i:Int)<(i:Int))=false:=by simp
    have bp:=l1.out
    have q7:=zkR (lx:=L.log) h7 ae ao (λj hj=>by
     have:zo S2 j=zo S' j:=by unfold zo;rw [af]
     rw [this,l4.out j hj]) (by rw [bp];omega)
    rw [bp] at q7;clear h7 bp;replace af:=hid af;replace ao:=hid ao;replace ae:=hid ae;go_wp2_with fail
    refine q7.mono ?_;rintro e w8⟨rfl,S8,cm,ca,h8⟩;clear q7;have hT:S8.trace=S'.trace:=ca.trans bd;have q8:=h8.traceAt (by rw [hT];have:=bg.out;omega);rw [hT] at q8;have cb:=h8.bel (by simp);clear h8 ca bd hT;have t9:((S'.trace.length:Int)==(S'.trace.length:Int))=true:=by simp
    go_wp2_with fail
    refine q8.mono ?_;rintro e w9⟨v9,rfl,ad,bn, -⟩;obtain⟨a9,c9,rfl⟩:=ad.wideV.shape;clear q8;replace ad:=hid ad;go_wp2;go_ret
    exact⟨rfl,zh aj.out (zh cb bn)⟩
