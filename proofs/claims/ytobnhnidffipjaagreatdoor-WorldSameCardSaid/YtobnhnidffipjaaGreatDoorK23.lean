/- PARTS OF THE PROOF. -/
import Derived.Test.YtobnhnidffipjaaGreatDoorK05
import Derived.Test.YtobnhnidffipjaaGreatDoorK06
import Derived.Test.YtobnhnidffipjaaGreatDoorK21
set_option maxRecDepth 8000
set_option maxHeartbeats 4000000
open Go.Proofs.Tryz
namespace Go.Proofs.YtobnhnidffipjaaGreatDoor
open Go Go.RowKit Go.Shelf Go.Extern.Stop Go.Stop Go.Extern
attribute [local go_sem] Oper.semAt_some zw zm
theorem zcU(s:List UInt8):(vK s).2=0∨(9<=(vK s).2/\(vK s).2<=s.length):=by
 unfold vK
 split
 ·exact .inl rfl
 ·split
  ·exact .inl rfl
  ·split
   ·exact .inl rfl
   ·right;simp only;omega
def Jb(r:zB×Nat):Value:=.tuple #[vp r.1,.int .i64 (r.2:Nat)]
theorem ze7(s:List UInt8)(hl:s.length<=1073741824)(w:World):Calls prog 175 #[.string (bs s)] w λe w'=>e=.returned (Jb (vK s))/\Below w.heap.size w w':=by
 have hsz:=zJ s
 by_cases h9:s.length<9
 ·have hf:vK s=(((0,0),[]),0):=by unfold vK;rw [if_pos h9]
  rw [hf];unfold Jb vp;have t0:decide (((bs s).size:Int)<9)=true:=by rw [hsz];simp;omega
  replace hsz:=G hsz;replace hf:=G hf
  go_enter func175,ntmps175
  go_wp2;exact bodyPost_ret (v:=.tuple #[.agg #[.int .i64 0,.int .u32 0,.string ⟨#[]⟩],.int .i64 0]) (by simp [results,Tryz.results175,go_sem]) rfl ⟨rfl,pbx⟩
 have t0:decide (((bs s).size:Int)<9)=false:=by rw [hsz];simp;omega
 have b9:(9:Int)<=((bs s).size:Int):=by omega
 have b5:(5:Int)<=((bs s).size:Int):=by omega
 have c5:¬(bs s).size<5:=by omega
 have c9:¬(bs s).size<9:=by omega
 have hks:0<(bs s).size:=by omega
 obtain⟨x,hx⟩:∃x,(bs s)[0]=x:=⟨_,rfl⟩
 have hhd:s.head?=some x:=by
  cases s with
  |nil=>simp at h9
  |cons y s=>exact congrArg some hx
 have hex1:=yh s 1 5;have hex2:=yh s 5 9;rw [show 5 - 1=4 from rfl] at hex1;rw [show 9 - 5=4 from rfl] at hex2;have hl1:((s.drop 1).take 4).length=4:=by rw [N7,U3];omega
 have hl2:((s.drop 5).take 4).length=4:=by rw [N7,U3];omega
 have hf0:vK s=if 1000<yn ((s.drop 5).take 4)∨s.length<9+yn ((s.drop 5).take 4)then(((0,0),[]),0)
  else if zF ((((s.head?.getD 0).toNat:Int),yn ((s.drop 1).take 4)),(s.drop 9).take (yn ((s.drop 5).take 4)))=false then(((0,0),[]),0)
  else(((((s.head?.getD 0).toNat:Int),yn ((s.drop 1).take 4)),(s.drop 9).take (yn ((s.drop 5).take 4))),9+yn ((s.drop 5).take 4)):=by
  unfold vK;rw [if_neg h9]
 rw [hhd] at hf0;simp only [Option.getD_some] at hf0;have hget1:=λW=>xQ ((s.drop 1).take 4) (by omega) W
 have hget2:=λW=>xQ ((s.drop 5).take 4) (by omega) W
 rw [vL hl1] at hget1;rw [vL hl2] at hget2;have hg2:=vY ((s.drop 5).take 4)
 generalize(s.drop 1).take 4=d1 at*
 generalize(s.drop 5).take 4=d2 at*
 generalize yn d1=c at*
 generalize yn d2=n at*
 have hexd:=yh s 9 (9+n);rw [show 9+n - 9=n by omega] at hexd;have hwx:IntKind.i64.wrap (x.toNat:Int)=x.toNat:=by have:=x.toNat_lt;rw [N8];omega
 have hwn:IntKind.i64.wrap (n:Int)=n:=by rw [N8];omega
 have hw9:IntKind.i64.wrap (9+(n:Int))=9+n:=by rw [N8];omega
 replace hget1:=G hget1;replace hget2:=G hget2;replace hhd:=G hhd
 by_cases h1:1000<n
 ·rw [if_pos (.inl h1)] at hf0
  rw [hf0];unfold Jb vp;have t1:decide ((1000:Int)<(n:Int))=true:=by simp;omega
  replace hsz:=G hsz;replace hf0:=G hf0
  go_enter func175,ntmps175
  go_wp2_with fail
  refine(hget1.out _).mono ?_;rintro e w1⟨rfl,hb1⟩;have k1:Blk w1 w.heap.size #[.int .i64 0,.int .u32 0,.string ⟨#[]⟩] 34:=Blk.call (bkx) hb1;have hbw1:Below w.heap.size w w1:=pbx;go_wp2_with fail
  refine(hget2.out _).mono ?_;rintro e w2⟨rfl,hb2⟩;have k2:=k1.call hb2;have hbw2:=ze hbw1 hb2;have c2:=k2.cell;have f2:=k2.frozen;have l2:=k2.lt;clear k1 hbw1 hb1 hb2;have rr:=(((k2.set (o:=0) (.int .i64 0)).set (o:=1) (.int .u32 0)).set (o:=2) (.string ⟨#[]⟩)).cell;go_wp2;exact bodyPost_ret (v:=.tuple #[.agg #[.int .i64 0,.int .u32 0,.string ⟨#[]⟩],.int .i64 0]) (by simp [results,Tryz.results175,go_sem,rr]) rfl ⟨rfl,zp (zp (zp hbw2 (by simp) _) (by simp) _) (by simp) _⟩
 ·have t1:decide ((1000:Int)<(n:Int))=false:=by simp;omega
  by_cases h2:s.length<9+n
  ·rw [if_pos (.inr h2)] at hf0
   rw [hf0];unfold Jb vp;have t2:decide (((bs s).size:Int)<9+(n:Int))=true:=by rw [hsz];simp;omega
   replace hsz:=G hsz;replace hf0:=G hf0
   go_enter func175,ntmps175
   go_wp2_with fail
   refine(hget1.out _).mono ?_;rintro e w1⟨rfl,hb1⟩;have k1:Blk w1 w.heap.size #[.int .i64 0,.int .u32 0,.string ⟨#[]⟩] 34:=Blk.call (bkx) hb1;have hbw1:Below w.heap.size w w1:=pbx;go_wp2_with fail
   refine(hget2.out _).mono ?_;rintro e w2⟨rfl,hb2⟩;have k2:=k1.call hb2;have hbw2:=ze hbw1 hb2;have c2:=k2.cell;have f2:=k2.frozen;have l2:=k2.lt;clear k1 hbw1 hb1 hb2;have rr:=(((k2.set (o:=0) (.int .i64 0)).set (o:=1) (.int .u32 0)).set (o:=2) (.string ⟨#[]⟩)).cell;go_wp2;exact bodyPost_ret (v:=.tuple #[.agg #[.int .i64 0,.int .u32 0,.string ⟨#[]⟩],.int .i64 0]) (by simp [results,Tryz.results175,go_sem,rr]) rfl ⟨rfl,zp (zp (zp hbw2 (by simp) _) (by simp) _) (by simp) _⟩
  ·rw [if_neg (by omega)] at hf0
   have t2:decide (((bs s).size:Int)<9+(n:Int))=false:=by rw [hsz];simp;omega
   have y1:9+(n:Int)<=((bs s).size:Int):=by omega
   have y0:(9:Int)<=9+(n:Int):=by omega
   have hwr:(9+(n:Int)).toNat=9+n:=by omega
   generalize(s.drop 9).take n=d at*
   have hright:=λW=>vH (x.toNat:Int) c d W
   replace hsz:=G hsz
   cases hr:zF (((x.toNat:Int),c),d)
   ·rw [if_pos hr] at hf0
    rw [hr] at hright;rw [hf0];unfold Jb vp;replace hf0:=G hf0;replace hright:=G hright
    go_enter func175,ntmps175
    go_wp2_with fail
    refine(hget1.out _).mono ?_;rintro e w1⟨rfl,hb1⟩;have k1:Blk w1 w.heap.size #[.int .i64 0,.int .u32 0,.string ⟨#[]⟩] 34:=Blk.call (bkx) hb1;have hbw1:Below w.heap.size w w1:=pbx;go_wp2_with fail
    refine(hget2.out _).mono ?_;rintro e w2⟨rfl,hb2⟩;have k2:=k1.call hb2;have hbw2:=ze hbw1 hb2;have c2:=k2.cell;have f2:=k2.frozen;have l2:=k2.lt;clear k1 hbw1 hb1 hb2;go_wp2_with fail
    apply ZT (Wp:=λw'=>Below w2.heap.size w2 w'/\Blk w' w2.heap.size #[.int .i64 (x.toNat:Int),.int .u32 c,.string (bs d)] 34)
    case h=>
     go_region_with fail
     all_goals go_simp
     all_goals exact ZS ⟨pbx,bkx⟩
    case' h2=>
    rintro w3⟨hb3,kM3⟩;have cM3:=kM3.cell;have k3:=k2.call hb3;clear c2 f2 l2 k2;go_wp2_with fail
    refine(hright.out _).mono ?_;rintro e w4⟨rfl,hb4⟩;have kM4:=kM3.call hb4;have kA4:=k3.call hb4;have hbw4:=ze (ze hbw2 hb3) hb4;have cM4:=kM4.cell;have cA4:=kA4.cell;have fA4:=kA4.frozen;have lA4:=kA4.lt;have rr:=(((kA4.set (o:=0) (.int .i64 0)).set (o:=1) (.int .u32 0)).set (o:=2) (.string ⟨#[]⟩)).cell;go_wp2;exact bodyPost_ret (v:=.tuple #[.agg #[.int .i64 0,.int .u32 0,.string ⟨#[]⟩],.int .i64 0]) (by simp [results,Tryz.results175,go_sem,rr]) rfl ⟨rfl,zp (zp (zp hbw4 (by simp) _) (by simp) _) (by simp) _⟩
   ·rw [if_neg (by simp [hr])] at hf0
    rw [hr] at hright;rw [hf0];unfold Jb vp;replace hf0:=G hf0;replace hright:=G hright
    go_enter func175,ntmps175
    go_wp2_with fail
    refine(hget1.out _).mono ?_;rintro e w1⟨rfl,hb1⟩;have k1:Blk w1 w.heap.size #[.int .i64 0,.int .u32 0,.string ⟨#[]⟩] 34:=Blk.call (bkx) hb1;have hbw1:Below w.heap.size w w1:=pbx;go_wp2_with fail
    refine(hget2.out _).mono ?_;rintro e w2⟨rfl,hb2⟩;have k2:=k1.call hb2;have hbw2:=ze hbw1 hb2;have c2:=k2.cell;have f2:=k2.frozen;have l2:=k2.lt;clear k1 hbw1 hb1 hb2;go_wp2_with fail
    apply ZT (Wp:=λw'=>Below w2.heap.size w2 w'/\Blk w' w2.heap.size #[.int .i64 (x.toNat:Int),.int .u32 c,.string (bs d)] 34)
    case h=>
     go_region_with fail
     all_goals go_simp
     all_goals exact ZS ⟨pbx,bkx⟩
    case' h2=>
    rintro w3⟨hb3,kM3⟩;have cM3:=kM3.cell;have k3:=k2.call hb3;clear c2 f2 l2 k2;go_wp2_with fail
    refine(hright.out _).mono ?_;rintro e w4⟨rfl,hb4⟩;have kM4:=kM3.call hb4;have kA4:=k3.call hb4;have hbw4:=ze (ze hbw2 hb3) hb4;have cM4:=kM4.cell;have cA4:=kA4.cell;have fA4:=kA4.frozen;have lA4:=kA4.lt;have rr:=(((kA4.set (o:=0) (.int .i64 x.toNat)).set (o:=1) (.int .u32 c)).set (o:=2) (.string (bs d))).cell;go_wp2;exact bodyPost_ret (v:=.tuple #[.agg #[.int .i64 x.toNat,.int .u32 c,.string (bs d)],.int .i64 (9+(n:Int))]) (by simp [results,Tryz.results175,go_sem,rr]) rfl ⟨rfl,zp (zp (zp hbw4 (by simp) _) (by simp) _) (by simp) _⟩
theorem Jc:∀(n:Nat)(s:List UInt8)(l:List zB),yK n s=some l->l.length=n
 |0,s,l,h=>by
  unfold yK at h
  split at h
  ·cases h;rfl
  ·cases h
 |n+1,s,l,h=>by
  unfold yK at h
  split at h
  ·cases h
  ·cases hu:yK n (s.drop (vK s).2)with
   |none=>rw [hu] at h;cases h
   |some l'=>
    rw [hu] at h
    cases h
    simp [Jc n _ l' hu]
def Yt(r:List zB×Int)(w:World)(e:Ending)(w':World):Prop:=
 ∃v,e=.returned (.tuple #[v,.int .i64 r.2])/\Below w.heap.size w w'/\Row w' 34 3 v r.1.length (r.1.flatMap zi)/\∀g,v.ownBlock=some g->w.heap.size<=g
theorem Qj(s:List UInt8)(hl:s.length<=1073741824)(w:World):Calls prog 130 #[.string (bs s)] w (Yt (jF s) w):=by
 have hsz:=zJ s
 cases hs:s with
 |nil=>
  subst hs;have hp:jF []=([],101):=rfl;rw [hp];have t0:decide (((bs []).size:Int)<1)=true:=by rw [hsz];simp
  replace hsz:=G hsz;replace hp:=G hp
  go_enter func130,ntmps130
  go_wp2;go_ret2
  exact⟨_,rfl,N2 _ _,zX _ _ _,by simp [Value.ownBlock]⟩
 |cons b r0=>
  have hp:jF (b::r0)=if 64<b.toNat then([],101)else(match yK b.toNat r0 with|none=>(([]:List zB),(101:Int))|some l=>(l,0)):=rfl
  rw [← hs] at hp⊢;have t0:decide (((bs s).size:Int)<1)=false:=by rw [hsz,hs];simp;omega
  have hks:0<(bs s).size:=by rw [hsz,hs];simp
  obtain⟨x,hx⟩:∃x,(bs s)[0]=x:=⟨_,rfl⟩
  have hxb:x=b:=by
   subst hs;rw [← hx];rfl
  subst hxb
  by_cases h64:64<x.toNat
  ·rw [if_pos h64] at hp
   rw [hp];have t1:decide ((64:Int)<(x.toNat:Int))=true:=by simp;omega
   replace hsz:=G hsz;replace hp:=G hp;replace hs:=G hs
   go_enter func130,ntmps130
   go_wp2;go_ret2
   exact⟨_,rfl,N2 _ _,zX _ _ _,by simp [Value.ownBlock]⟩
  ·rw [if_neg h64] at hp
   have t1:decide ((64:Int)<(x.toNat:Int))=false:=by simp;omega
   have y1:(1:Int)<=((bs s).size:Int):=by omega
   have hxd:(bs s).extract 1 (bs s).size=bs r0:=by rw [ji,hs];rfl
   have hwx:IntKind.i64.wrap (x.toNat:Int)=x.toNat:=by rw [N8];omega
   have hr0:r0.length<=1073741824:=by rw [hs] at hl;simp at hl;omega
   obtain⟨n,hxn⟩:∃n,x.toNat=n:=⟨_,rfl⟩;rw [hxn] at h64 hp t1 hwx;have hn:n<=64:=by omega
   replace hsz:=G hsz;replace hs:=G hs;replace hp:=G hp
   go_enter func130,ntmps130
   go_wp2
   go_loopw [4,5,21] (λp4 p5 p21 wr=>∃(k:Nat)(acc:List zB)(r:List UInt8),k<=n/\p21=.int .i64 k/\p5=.string (bs r)/\r.length<=r0.length/\acc.length=k/\yK n r0=(yK (n - k) r).map (acc++·)/\Row wr 34 3 p4 acc.length (acc.flatMap zi)/\(∀g,p4.ownBlock=some g->w.heap.size<=g)/\Below w.heap.size w wr) (λ_ _ p21 _=>n - (intOf p21).toNat)
   case atStart=>exact⟨0,[],r0,Nat.zero_le _,rfl,rfl,N0 _,rfl,by simp,zX _ _ _,by simp [Value.ownBlock],N2 _ _⟩
   case round=>
    obtain⟨k,acc,r,hk,rfl,rfl,hr,hacc,hun,hrow,hown,hbw⟩:=hrel;clear hxd y1
    by_cases hlt:k<n
    ·have hfm:=λW=>ze7 r (by omega) W
     have hfs:=zcU r;have hsr:=zJ r
     have hus:yK (n - k) r=if(vK r).2=0 then none else(yK (n - (k+1)) (r.drop (vK r).2)).map ((vK r).1::·):=by
      rw [show n - k=(n - (k+1))+1 by omega];rfl
     obtain⟨⟨⟨⟨mi,mc⟩,md⟩,m⟩,hm⟩:∃q,vK r=q:=⟨_,rfl⟩;rw [hm] at hfm hfs hus;unfold Jb vp at hfm;simp only at hfm hfs hus;obtain⟨ra,rn,rc,rfl⟩:=hrow.shape;replace hfm:=G hfm;replace hm:=G hm;replace hown:=G hown;replace hacc:=G hacc
     by_cases hm0:m=0
     ·subst hm0
      rw [if_pos rfl] at hus;rw [hus] at hun;have hpp:=hp.out;rw [hun] at hpp;have t2:((0:Int)==0)=true:=rfl;replace hrow:=G hrow;replace hus:=G hus;replace hun:=G hun;replace hpp:=G hpp;replace hsr:=G hsr;go_wp2_with fail
      refine(hfm.out _).mono ?_;rintro e w1⟨rfl,hb1⟩;go_wp2;go_ret2
      rw [hpp.out];exact⟨_,rfl,zg (ze hbw hb1) _,zX _ _ _,by simp [Value.ownBlock]⟩
     ·rw [if_neg hm0] at hus
      have t2:((m:Int)==0)=false:=by simpa using hm0
      have y1:(m:Int)<=((bs r).size:Int):=by omega
      have hxd:=ji r m
      have hun2:yK n r0=(yK (n - (k+1)) (r.drop m)).map ((acc++ [((mi,mc),md)])++·):=by
       rw [hun,hus];cases yK (n - (k+1)) (r.drop m)<;>simp
      have hrl:(r.drop m).length<=r0.length:=by simp;omega
      generalize r.drop m=r' at*
      replace hus:=G hus;replace hun:=G hun;replace hun2:=G hun2;replace hsr:=G hsr;go_wp2_with fail
      refine(hfm.out _).mono ?_;rintro e w1⟨rfl,hb1⟩;have hb2:Below wr.heap.size wr (w1.alloc (.cells #[.int .i64 mi,.int .u32 mc,.string (bs md)] 34)):=zg hb1 _;have hrow2:=hrow.below hb2;obtain⟨v',W4,hrun,hrow4,hgr,hown4⟩:=zN zar (hrow2.below ((N2 _ _).alloc (N0 _) (.cells #[.int .i64 mi,.int .u32 mc,.string (bs md)] 34))) (jH (n:=1) (size:=3) (cap:=1) (Blk.new (w:=w1.alloc (.cells #[.int .i64 mi,.int .u32 mc,.string (bs md)] 34)) (cs:=#[.int .i64 mi,.int .u32 mc,.string (bs md)]) (t:=34) rfl) rfl (N0 1)) (je [((mi,mc),md)]) (by have:=hacc.out;omega) 57;obtain⟨sa,sm,sc,rfl⟩:=hrow4.shape;have hz1:(w1.alloc (.cells #[.int .i64 mi,.int .u32 mc,.string (bs md)] 34)).heap.size=w1.heap.size+1:=by simp
      rw [hz1] at hrun;replace hrow4:=G hrow4;replace hown4:=G hown4;replace hrow2:=G hrow2;replace hrow:=G hrow;replace hrun:=G hrun
      go_wp2_with (at_builtin
                   refine zv rfl _ _ _ rfl rfl rfl hrun.out ?_)
      go_roundw
      case rel=>
       have hbW2:=ze hbw hb2;refine⟨k+1,acc++ [((mi,mc),md)],r',by omega,by go_num,rfl,hrl,by simp [hacc.out],hun2.out,?_,λg hg=>?_,?_⟩
       ·rw [N1,U2,U5];exact hrow4.out
       ·have h5:=hown4.out
        rw [hg] at h5
        rcases h5 with h|h
        ·exact hown.out g h.symm
        ·have:=hbW2.size;simp at h;omega
       ·exact(hbW2.alloc (hbW2.size) _).grown hgr (by have:=hbW2.size;simp;omega) (λj hj=>hown.out j hj)
      case measure=>simp [intOf];omega
    ·obtain rfl:k=n:=by omega
     have hsr:(bs r).toList.isEmpty=r.isEmpty:=by rw [y6]
     rw [show k - k=0 by omega] at hun;have hu0:yK 0 r=if r=[] then some [] else none:=rfl
     rw [hu0] at hun;obtain⟨ra,rn,rc,rfl⟩:=hrow.shape
     by_cases hre:r=[]
     ·rw [if_pos hre] at hun
      have hpp:=hp.out;rw [hun] at hpp;have hpp':jF s=(acc,0):=by rw [hpp];simp
      rw [show r.isEmpty=true by simp [hre]] at hsr;replace hrow:=G hrow;replace hun:=G hun;replace hre:=G hre;replace hpp:=G hpp;replace hpp':=G hpp';go_wp2;go_ret2
      rw [hpp'.out];exact⟨_,rfl,hbw,hrow.out,hown⟩
     ·rw [if_neg hre] at hun
      have hpp:=hp.out;rw [hun] at hpp;rw [show r.isEmpty=false by simp [hre]] at hsr;replace hrow:=G hrow;replace hun:=G hun;replace hre:=G hre;replace hpp:=G hpp;go_wp2;go_ret2
      rw [hpp.out];exact⟨_,rfl,hbw,zX _ _ _,by simp [Value.ownBlock]⟩
def ZH(r:jB×Int)(w:World)(e:Ending)(w':World):Prop:=
 ∃mv,e=.returned (.tuple #[q8 r.1 mv,.int .i64 r.2])/\Below w.heap.size w w'/\Row w' 34 3 mv r.1.msgs.length (r.1.msgs.flatMap zi)/\∀g,mv.ownBlock=some g->w.heap.size<=g
def ziw:jB:=⟨0,0,0,[]⟩
theorem xS {w w':World}(hb:Below w.heap.size w w'):ZH (ziw,140) w (.returned (.tuple #[.agg #[.int .i64 0,.int .u32 0,.int .i64 0,.slice none 0 0],.int .i64 140])) w':=
 ⟨.slice none 0 0,rfl,hb,zX _ _ _,by simp [Value.ownBlock]⟩
theorem ze8(s:List UInt8)(w:World):Calls prog 132 #[.string (bs s)] w (ZH (jx s) w):=by
 have hsz:=zJ s
 by_cases hbad:s.length<6∨4000<s.length
 ·have hd:jx s=(ziw,140):=by unfold jx;rw [if_pos hbad];rfl
  rw [hd];replace hd:=G hd
  by_cases h6:s.length<6
  ·have t0:decide (((bs s).size:Int)<6)=true:=by rw [hsz];simp;omega
   replace hsz:=G hsz;clear hbad
   go_enter func132,ntmps132
   go_wp2;exact bodyPost_ret (v:=.tuple #[.agg #[.int .i64 0,.int .u32 0,.int .i64 0,.slice none 0 0],.int .i64 140]) (by simp [results,Tryz.results132,go_sem]) rfl (xS (pbx))
  ·have t0:decide (((bs s).size:Int)<6)=false:=by rw [hsz];simp;omega
   have t1:decide ((4000:Int)<((bs s).size:Int))=true:=by rw [hsz];simp;omega
   replace hsz:=G hsz;clear hbad
   go_enter func132,ntmps132
   go_wp2;exact bodyPost_ret (v:=.tuple #[.agg #[.int .i64 0,.int .u32 0,.int .i64 0,.slice none 0 0],.int .i64 140]) (by simp [results,Tryz.results132,go_sem]) rfl (xS (pbx))
 have t0:decide (((bs s).size:Int)<6)=false:=by rw [hsz];simp;omega
 have t1:decide ((4000:Int)<((bs s).size:Int))=false:=by rw [hsz];simp;omega
 have b6:(6:Int)<=((bs s).size:Int):=by omega
 have b5:(5:Int)<=((bs s).size:Int):=by omega
 have b5':(5:Int)<((bs s).size:Int):=by omega
 have c5:¬(bs s).size<5:=by omega
 have c6:¬(bs s).size<6:=by omega
 have hk0:0<(bs s).size:=by omega
 have hk5:5<(bs s).size:=by omega
 obtain⟨x0,hx0⟩:∃x,(bs s)[0]=x:=⟨_,rfl⟩;obtain⟨x5,hx5⟩:∃x,(bs s)[5]=x:=⟨_,rfl⟩;have hg0:s[0]?=some x0:=by rw [← hx0];exact N3 (by omega)
 have hg5:s[5]?=some x5:=by rw [← hx5];exact N3 (by omega)
 have hhd:s.head?=some x0:=by rw [List.head?_eq_getElem?];exact hg0
 have hhd5:(s.drop 5).head?=some x5:=by rw [List.head?_drop];exact hg5
 have hex:=yh s 1 5;rw [show 5 - 1=4 from rfl] at hex;have hxd:=ji s 6;have hl1:((s.drop 1).take 4).length=4:=by rw [N7,U3];omega
 have hl6:(s.drop 6).length<=4000:=by rw [U3];omega
 have hd:jx s=if(jF (s.drop 6)).2≠0 then(ziw,140)else if(vo ⟨(s.head?.getD 0).toNat,yn ((s.drop 1).take 4),((s.drop 5).head?.getD 0).toNat,(jF (s.drop 6)).1⟩)=(s,0)then(⟨(s.head?.getD 0).toNat,yn ((s.drop 1).take 4),((s.drop 5).head?.getD 0).toNat,(jF (s.drop 6)).1⟩,0)else(ziw,140):=by
  unfold jx;rw [if_neg hbad];rfl
 rw [hhd,hhd5] at hd;simp only [Option.getD_some] at hd;have hget:=λW=>xQ ((s.drop 1).take 4) (by omega) W
 rw [vL hl1] at hget;have hun:=λW=>Qj (s.drop 6) (by omega) W
 have hlen:(jF (s.drop 6)).1.length<=1073741824:=by
  unfold jF
  split
  ·simp
  ·split
   ·simp
   ·split
    ·simp
    ·rename_i hu;rw [Jc _ _ _ hu];omega
 unfold Yt at hun
 generalize(s.drop 1).take 4=d1 at*
 generalize s.drop 6=d6 at*
 generalize yn d1=n at*
 generalize hug:jF d6=U at*
 obtain⟨l,er⟩:=U;simp only at hun hd hlen;have hwx0:IntKind.i64.wrap (x0.toNat:Int)=x0.toNat:=by have:=x0.toNat_lt;rw [N8];omega
 have hwx5:IntKind.i64.wrap (x5.toNat:Int)=x5.toNat:=by have:=x5.toNat_lt;rw [N8];omega
 have henc:=λmv W hW=>Yh ⟨x0.toNat,n,x5.toNat,l⟩ mv W hW hlen
 unfold q8 at henc;simp only at henc;replace hget:=G hget;replace hun:=G hun;replace hhd:=G hhd;replace hhd5:=G hhd5;replace hg0:=G hg0;replace hg5:=G hg5;replace hug:=G hug;clear hbad
 by_cases he:er=0
 ·subst he
  rw [if_neg (by simp)] at hd
  generalize hEe:(vo ⟨x0.toNat,n,x5.toNat,l⟩)=E9 at*
  obtain⟨again,ee⟩:=E9;simp only at henc;have hq:=zdN again s;replace hsz:=G hsz;replace hEe:=G hEe;replace henc:=G henc
  by_cases hee:ee=0
  ·subst hee
   have t3:((0:Int) !=0)=false:=rfl
   by_cases hag:again=s
   ·subst hag
    rw [if_pos rfl] at hd;rw [hd];rw [show decide (again=again)=true by simp] at hq;replace hd:=G hd;have hpost:∀mv W',Below w.heap.size w W'->Row W' 34 3 mv l.length (l.flatMap zi)->(∀g,mv.ownBlock=some g->w.heap.size<=g)->ZH (⟨x0.toNat,n,x5.toNat,l⟩,0) w (.returned (.tuple #[.agg #[.int .i64 (x0.toNat:Int),.int .u32 n,.int .i64 (x5.toNat:Int),mv],.int .i64 0])) W':=λmv W' h1 h2 h3=>⟨mv,rfl,h1,h2,h3⟩
    replace hpost:=G hpost
    go_enter func132,ntmps132
    go_wp2_with fail
    refine(hget.out _).mono ?_;rintro e w1⟨rfl,hb1⟩;have k1:Blk w1 w.heap.size #[.int .i64 0,.int .u32 0,.int .i64 0,.slice none 0 0] 178:=Blk.call (bkx) hb1;have hbw1:Below w.heap.size w w1:=pbx;go_wp2_with fail
    refine(hun.out _).mono ?_;rintro e w2⟨lv,rfl,hb2,hrow,hown⟩;have k2:=k1.call hb2;have hbw2:=ze hbw1 hb2;have c2:=k2.cell;have f2:=k2.frozen;have l2:=k2.lt;clear k1;obtain⟨la,ln,lc,rfl⟩:=hrow.shape;go_wp2_with fail
    apply ZT (Wp:=λw'=>Below w2.heap.size w2 w'/\Blk w' w2.heap.size #[.int .i64 (x0.toNat:Int),.int .u32 n,.int .i64 (x5.toNat:Int),.slice la ln lc] 178)
    case h=>
     go_region_with fail
     all_goals go_simp
     all_goals exact ZS ⟨pbx,bkx⟩
    case' h2=>
    rintro w3⟨hb3,kM3⟩;have cM3:=kM3.cell;have k3:=k2.call hb3;have hrow3:=hrow.below hb3;clear c2 f2 l2 k2;go_wp2_with fail
    refine(henc.out _ _ hrow3.src).mono ?_;rintro e w4⟨rfl,hb4⟩;have kM4:=kM3.call hb4;have kA4:=k3.call hb4;have hrow4:=hrow3.below hb4;have hbw4:=ze (ze hbw2 hb3) hb4;have cM4:=kM4.cell;have cA4:=kA4.cell;have fA4:=kA4.frozen;have lA4:=kA4.lt;have rr:=((((kA4.set (o:=0) (.int .i64 x0.toNat)).set (o:=1) (.int .u32 n)).set (o:=2) (.int .i64 x5.toNat)).set (o:=3) (.slice la ln lc)).cell;have hne:∀g,(Value.slice la ln lc).ownBlock=some g->g≠w.heap.size:=λg hg=>hrow4.ne_blk kA4 (by decide) hg
    have hz1:=hbw1.size;go_wp2;refine bodyPost_ret (v:=.tuple #[.agg #[.int .i64 x0.toNat,.int .u32 n,.int .i64 x5.toNat,.slice la ln lc],.int .i64 0]) (by simp [results,Tryz.results132,go_sem,rr]) rfl (hpost.out _ _ (zp (zp (zp (zp hbw4 (by simp) _) (by simp) _) (by simp) _) (by simp) _) (hrow4.kept (λg hg=>?_)) (λg hg=>by have:=hown g hg;omega));exact(N4 _ _ _ _ (hne g hg)).trans ((N4 _ _ _ _ (hne g hg)).trans ((N4 _ _ _ _ (hne g hg)).trans (N4 _ _ _ _ (hne g hg))))
   ·rw [if_neg (by simp [hag])] at hd
    rw [hd];rw [show decide (again=s)=false by simpa using hag] at hq;replace hd:=G hd;replace hag:=G hag
    go_enter func132,ntmps132
    go_wp2_with fail
    refine(hget.out _).mono ?_;rintro e w1⟨rfl,hb1⟩;have k1:Blk w1 w.heap.size #[.int .i64 0,.int .u32 0,.int .i64 0,.slice none 0 0] 178:=Blk.call (bkx) hb1;have hbw1:Below w.heap.size w w1:=pbx;go_wp2_with fail
    refine(hun.out _).mono ?_;rintro e w2⟨lv,rfl,hb2,hrow,hown⟩;have k2:=k1.call hb2;have hbw2:=ze hbw1 hb2;have c2:=k2.cell;have f2:=k2.frozen;have l2:=k2.lt;clear k1;obtain⟨la,ln,lc,rfl⟩:=hrow.shape;go_wp2_with fail
    apply ZT (Wp:=λw'=>Below w2.heap.size w2 w'/\Blk w' w2.heap.size #[.int .i64 (x0.toNat:Int),.int .u32 n,.int .i64 (x5.toNat:Int),.slice la ln lc] 178)
    case h=>
     go_region_with fail
     all_goals go_simp
     all_goals exact ZS ⟨pbx,bkx⟩
    case' h2=>
    rintro w3⟨hb3,kM3⟩;have cM3:=kM3.cell;have k3:=k2.call hb3;have hrow3:=hrow.below hb3;clear c2 f2 l2 k2;go_wp2_with fail
    refine(henc.out _ _ hrow3.src).mono ?_;rintro e w4⟨rfl,hb4⟩;have kM4:=kM3.call hb4;have kA4:=k3.call hb4;have hrow4:=hrow3.below hb4;have hbw4:=ze (ze hbw2 hb3) hb4;have cM4:=kM4.cell;have cA4:=kA4.cell;have fA4:=kA4.frozen;have lA4:=kA4.lt;have rr:=((((kA4.set (o:=0) (.int .i64 0)).set (o:=1) (.int .u32 0)).set (o:=2) (.int .i64 0)).set (o:=3) (.slice none 0 0)).cell;go_wp2;exact bodyPost_ret (v:=.tuple #[.agg #[.int .i64 0,.int .u32 0,.int .i64 0,.slice none 0 0],.int .i64 140]) (by simp [results,Tryz.results132,go_sem,rr]) rfl (xS (zp (zp (zp (zp hbw4 (by simp) _) (by simp) _) (by simp) _) (by simp) _))
  ·rw [if_neg (by simp [hee])] at hd
   rw [hd];have t3:(ee !=0)=true:=by simpa using hee
   replace hd:=G hd;replace hee:=G hee
   go_enter func132,ntmps132
   go_wp2_with fail
   refine(hget.out _).mono ?_;rintro e w1⟨rfl,hb1⟩;have k1:Blk w1 w.heap.size #[.int .i64 0,.int .u32 0,.int .i64 0,.slice none 0 0] 178:=Blk.call (bkx) hb1;have hbw1:Below w.heap.size w w1:=pbx;go_wp2_with fail
   refine(hun.out _).mono ?_;rintro e w2⟨lv,rfl,hb2,hrow,hown⟩;have k2:=k1.call hb2;have hbw2:=ze hbw1 hb2;have c2:=k2.cell;have f2:=k2.frozen;have l2:=k2.lt;clear k1;obtain⟨la,ln,lc,rfl⟩:=hrow.shape;go_wp2_with fail
   apply ZT (Wp:=λw'=>Below w2.heap.size w2 w'/\Blk w' w2.heap.size #[.int .i64 (x0.toNat:Int),.int .u32 n,.int .i64 (x5.toNat:Int),.slice la ln lc] 178)
   case h=>
    go_region_with fail
    all_goals go_simp
    all_goals exact ZS ⟨pbx,bkx⟩
   case' h2=>
   rintro w3⟨hb3,kM3⟩;have cM3:=kM3.cell;have k3:=k2.call hb3;have hrow3:=hrow.below hb3;clear c2 f2 l2 k2;go_wp2_with fail
   refine(henc.out _ _ hrow3.src).mono ?_;rintro e w4⟨rfl,hb4⟩;have kM4:=kM3.call hb4;have kA4:=k3.call hb4;have hrow4:=hrow3.below hb4;have hbw4:=ze (ze hbw2 hb3) hb4;have cM4:=kM4.cell;have cA4:=kA4.cell;have fA4:=kA4.frozen;have lA4:=kA4.lt;have rr:=((((kA4.set (o:=0) (.int .i64 0)).set (o:=1) (.int .u32 0)).set (o:=2) (.int .i64 0)).set (o:=3) (.slice none 0 0)).cell;go_wp2;exact bodyPost_ret (v:=.tuple #[.agg #[.int .i64 0,.int .u32 0,.int .i64 0,.slice none 0 0],.int .i64 140]) (by simp [results,Tryz.results132,go_sem,rr]) rfl (xS (zp (zp (zp (zp hbw4 (by simp) _) (by simp) _) (by simp) _) (by simp) _))
 ·rw [if_pos he] at hd
  rw [hd];have t2:(er !=0)=true:=by simpa using he
  replace hsz:=G hsz;replace hd:=G hd;replace he:=G he
  go_enter func132,ntmps132
  go_wp2_with fail
  refine(hget.out _).mono ?_;rintro e w1⟨rfl,hb1⟩;have k1:Blk w1 w.heap.size #[.int .i64 0,.int .u32 0,.int .i64 0,.slice none 0 0] 178:=Blk.call (bkx) hb1;have hbw1:Below w.heap.size w w1:=pbx;go_wp2_with fail
  refine(hun.out _).mono ?_;rintro e w2⟨lv,rfl,hb2,hrow,hown⟩;have k2:=k1.call hb2;have hbw2:=ze hbw1 hb2;have c2:=k2.cell;have f2:=k2.frozen;have l2:=k2.lt;clear k1;obtain⟨la,ln,lc,rfl⟩:=hrow.shape;have rr:=((((k2.set (o:=0) (.int .i64 0)).set (o:=1) (.int .u32 0)).set (o:=2) (.int .i64 0)).set (o:=3) (.slice none 0 0)).cell;go_wp2;exact bodyPost_ret (v:=.tuple #[.agg #[.int .i64 0,.int .u32 0,.int .i64 0,.slice none 0 0],.int .i64 140]) (by simp [results,Tryz.results132,go_sem,rr]) rfl (xS (zp (zp (zp (zp hbw2 (by simp) _) (by simp) _) (by simp) _) (by simp) _))
