/- PARTS OF THE PROOF. -/
import Derived.Test.YtofppfoioodblaaGreatDoorDA34
set_option maxRecDepth 8000
set_option maxHeartbeats 4000000
open Go.Proofs.Tryz
namespace Go.Proofs.YtofppfoioodblaaGreatDoor
section
open Go Go.RowKit Go.Shelf Go.Extern.Stop Go.Stop Go.Extern
attribute [local go_sem] Oper.semAt_some zB zo
theorem q9(n:Nat)(hn:n<100)(w:World):Calls prog 20 #[.int .u64 (n:Nat)] w λe w'=>e=.returned (.string (bs (vr n)))/\Below w.heap.size w w':=by
 rw [zjs]
 go_enter func20,ntmps20
 go_wp2
 go_loopw [0,3] (λp0 p3 wr=>∃(m:Nat)(s:List UInt8),p0=.int .u64 (m:Nat)/\p3=.string (bs s)/\Below w.heap.size w wr/\s.length<=1/\Lib.decDigits n=Lib.decDigits m++s/\((m=n/\s=[])∨m<10)) (λp0 _ _=>(intOf p0).toNat)
 case atStart=>exact⟨n,[],rfl,rfl,N2 _ _,by simp,by simp,.inl ⟨rfl,rfl⟩⟩
 case round=>
  obtain⟨m,s,rfl,rfl,hb,ai,af,ac⟩:=hrel;have ab:m<100:=by rcases ac with h|h<;>omega
  obtain⟨k,hk⟩:∃k:UInt8,k=UInt8.ofNat (48+m % 10):=⟨_,rfl⟩;have ah:(k.toNat:Int)=48+(m:Int)% 10:=by rw [hk,UInt8.toNat_ofNat'];omega
  have aj:=zbh k (wr.alloc (.cells #[.int .u8 (48+(m:Int)% 10)] 5)) wr.heap.size (by rw [ah,(Blk.new (w:=wr) (cs:=#[.int .u8 (48+(m:Int)% 10)]) (t:=5) rfl).cell];rfl);have ag:bs [k] ++bs s=bs ([k] ++s):=by simp [bs,ByteArray.ext_iff]
  have hz:¬(9223372036854775807<(bs [k]).size+(bs s).size):=by rw [zI,zI];simp;omega
  replace af:=hid af;replace ac:=hid ac;replace hk:=hid hk
  by_cases h10:m<10
  ·have t0:(((m:Int) / 10)==0)=true:=by simp;omega
   have aa:Lib.decDigits n=[k] ++s:=by rw [af.out,Lib.decDigits_one h10,hk.out,Nat.mod_eq_of_lt h10]
   replace aa:=hid aa;go_wp2;go_ret
   exact⟨by rw [aa.out];rfl,zi hb _⟩
  have t0:(((m:Int) / 10)==0)=false:=by simp;omega
  obtain⟨ae,ad⟩:m=n/\s=[]:=by
   rcases ac.out with h|h
   ·exact h
   omega
  have aa:Lib.decDigits n=Lib.decDigits (m / 10)++([k] ++s):=by rw [← ae,Lib.decDigits_two h10 ab,Lib.decDigits_one (by omega),hk.out,ad];rfl
  replace aa:=hid aa;replace ae:=hid ae;replace ad:=hid ad;go_wp2
  go_roundw
  case rel=>exact⟨m / 10,[k] ++s,by simp,rfl,zi hb _,by rw [ad.out];simp,aa.out,.inr (by omega)⟩
  case measure=>simp [intOf];omega
end
section
open Go
theorem qp:∀(l:List (List UInt8)) (i:Nat),(jW i l).map (·.2)=(l.map vP).filter zaJ
 | [],_=>rfl
 |s::l,i=>by
  unfold jW;rw [List.map_cons]
  cases h:zaJ (vP s)
  ·rw [if_neg (by simp),List.filter_cons_of_neg (by simp [h])]
   exact qp l (i+1)
  rw [if_pos rfl,List.filter_cons_of_pos h,List.map_cons,qp l (i+1)]
theorem Jb {c:UInt8}{last:List UInt8}(hl:c∉last):∀(ls:List (List UInt8)),(∀x∈ls,c∉x)->jG c ((ls.map λx=>x++ [c]).flatten++last)=ls++ [last]
 | [],_=>by rw [List.map_nil,List.flatten_nil,List.nil_append,qd last hl];rfl
 |x::ls,h=>by
  rw [List.map_cons,List.flatten_cons,List.append_assoc,List.append_assoc,List.singleton_append,Y4 _ x (h x (List.mem_cons_self ..)),Jb hl ls (λy hy=>h y (U7 _ hy))];rfl
def Za(ls:List (List UInt8)):List (List (List UInt8)):=(ls.map vP).filter zaJ
theorem yZ(t:List UInt8):(j5 t).map (·.2)=Za (jG 10 t):=qp _ _
theorem zaD(t:List UInt8):(j5 t).length=(Za (jG 10 t)).length:=by rw [← yZ,List.length_map]
theorem Y1 {t:List UInt8}(h1:t.length<=65536)(h2:(Za (jG 10 t)).length<=300)(h3:∀ws∈Za (jG 10 t),yO ws=false):qq t=(j5 t,0,0):=by
 unfold qq;rw [if_neg (by omega),if_neg (by rw [zaD];omega)]
 have:(j5 t).find? (λl=>yO l.2)=none:=by
  rw [List.find?_eq_none];intro l hl;rw [h3 l.2 (by rw [← yZ];exact List.mem_map_of_mem hl)];simp
 rw [this]
theorem zaE {t:List UInt8}(h:65536<t.length∨300<(Za (jG 10 t)).length):qq t=([],0,200):=by
 unfold qq
 by_cases h1:65536<t.length
 ·rw [if_pos h1]
 rw [if_neg h1,if_pos (by rw [zaD];omega)]
inductive yS(v:Int):zf->List (List (List UInt8))->zf->List UInt8->Prop
 |nil {S:zf} :yS v S [] S []
 |cons {S S1 S':zf} {ws:List (List UInt8)} {r:List (List (List UInt8))} {o o':List UInt8} (h:q8 v S ws S1 o) (h':yS v S1 r S' o'):yS v S (ws::r) S' (o++o')
theorem yS.append {v:Int}{S S1 S':zf}{l r:List (List (List UInt8))}{o o':List UInt8}(h:yS v S l S1 o)(h':yS v S1 r S' o'):yS v S (l++r) S' (o++o'):=by
 induction h with
 |nil=>exact h'
 |cons h1 _ ih=>rw [List.cons_append,List.append_assoc];exact .cons h1 (ih h')
theorem yS.lines {v:Int}{S S':zf}{o:List UInt8} :∀ {l:List JK},yS v S (l.map (·.2)) S' o->xh v S l S' o:=by
 intro l
 induction l generalizing S o with
 |nil=>intro h;cases h;exact .nil
 |cons x l ih=>
  intro h;rw [List.map_cons] at h
  cases h with
  |cons h1 h2=>exact .cons h1 (ih h2)
theorem zds:vP [102,108,121,105,110,103]=[[102,108,121,105,110,103]]:=by decide
theorem zdt(a b:List (List UInt8)):Za (a++b)=Za a++Za b:=by unfold Za;rw [List.map_append,List.filter_append]
theorem zdu {x:List UInt8}{ws:List (List UInt8)}(hx:vP x=ws)(hs:zaJ ws=true)(n:Nat):Za (List.replicate n x)=List.replicate n ws:=by
 unfold Za;rw [List.map_replicate,hx,List.filter_replicate,if_pos hs]
theorem zjv:Za [[]]=[]:=by decide
def zhk(n:Nat):List UInt8:=(List.replicate n [102,108,121,105,110,103,10]).flatten
theorem Y2(n:Nat):Za (jG 10 (zhk n))=List.replicate n [[102,108,121,105,110,103]]:=by
 have h:=Jb (c:=10) (last:=[]) (by simp) (List.replicate n [102,108,121,105,110,103]) (λx hx=>by rw [List.eq_of_mem_replicate hx];decide);rw [List.append_nil,List.map_replicate] at h;have h2:jG 10 (zhk n)=_:=h;rw [h2,zdt,zjv,List.append_nil,zdu zds (by decide)]
theorem zfA(n:Nat):(zhk n).length=7*n:=by unfold zhk;simp;omega
theorem zfB(v:Int)(S:zf)(hS:S.notes=[]):∀n,yS v S (List.replicate n [[102,108,121,105,110,103]]) S (List.replicate n (xN [[102,108,121,105,110,103],vr 0])).flatten
 |0=>.nil
 |n+1=>by
  rw [List.replicate_succ,List.replicate_succ,List.flatten_cons];have h:=q8.flying (v:=v) (S:=S) (ws:=[[102,108,121,105,110,103]]) rfl rfl (by rw [hS];decide);rw [hS,List.length_nil] at h;exact .cons h (zfB v S hS n)
theorem zhl(n:Nat):Za (jG 10 (59::List.replicate n 120))=[]:=by
 have h1:(10:UInt8)∉(59::List.replicate n 120:List UInt8):=λh=>by
  rcases List.mem_cons.1 h with e|e
  ·exact absurd e (by decide)
  exact absurd (List.eq_of_mem_replicate e) (by decide)
 have h2:(32:UInt8)∉(59::List.replicate n 120:List UInt8):=λh=>by
  rcases List.mem_cons.1 h with e|e
  ·exact absurd e (by decide)
  exact absurd (List.eq_of_mem_replicate e) (by decide)
 rw [qd _ h1];unfold Za;rw [List.map_cons,List.map_nil];unfold vP;rw [qd _ h2];simp [zaJ,Lib.hasPrefix]
def dgP(a:Nat):UInt8:=if a=0 then 48 else if a=1 then 49 else 50
def zbI(a:Nat):List UInt8:=[115,101,110,100,32,dgP a,32,119]
def zbJ:List UInt8:=[102,97,105,114,32,49,48,48]
def zla(b:Nat):List UInt8:=[108,111,103,32,dgP b]
def ZF(a k b:Nat):List UInt8:=(List.replicate k (zbI a++ [10])).flatten++((zbJ++ [10])++zla b)
def Qt(a:Nat):List (List UInt8):=[[115,101,110,100],[dgP a],[119]]
theorem vi {a:Nat}(ha:a<3):a=0∨a=1∨a=2:=by omega
theorem Vv {a k b:Nat}(ha:a<3)(hb:b<3):Za (jG 10 (ZF a k b))=List.replicate k (Qt a)++ [[[102,97,105,114],[49,48,48]],[[108,111,103],[dgP b]]]:=by
 have hs:(10:UInt8)∉zbI a:=by rcases vi ha with rfl|rfl|rfl<;>decide
 have hw:vP (zbI a)=Qt a:=by rcases vi ha with rfl|rfl|rfl<;>decide
 have hl:(10:UInt8)∉zla b:=by rcases vi hb with rfl|rfl|rfl<;>decide
 have aa:Za [zbJ,zla b]=[[[102,97,105,114],[49,48,48]],[[108,111,103],[dgP b]]]:=by rcases vi hb with rfl|rfl|rfl<;>decide
 have h:=Jb hl (List.replicate k (zbI a)++ [zbJ]) (λx hx=>by
  rcases List.mem_append.1 hx with e|e
  ·rw [List.eq_of_mem_replicate e];exact hs
  rw [List.mem_singleton.1 e];decide)
 rw [List.map_append,List.map_replicate,List.flatten_append,List.append_assoc,List.append_assoc] at h
 have h2:jG 10 (ZF a k b)=List.replicate k (zbI a)++([zbJ] ++ [zla b]):=by
  unfold ZF;rw [show((zbJ++ [10])++zla b)=([zbJ].map λx=>x++ [10]).flatten++zla b by simp];exact h
 rw [h2,zdt,zdu hw (by rcases vi ha with rfl|rfl|rfl<;>decide)]
 congr 1
theorem zdv {a k b:Nat} :(ZF a k b).length=9*k+14:=by
 unfold ZF;simp [zbI,zbJ,zla]
 omega
theorem zdw {a:Nat}(ha:a<3):yO (Qt a)=false:=by rcases vi ha with rfl|rfl|rfl<;>decide
theorem zhm {a k b:Nat}(ha:a<3)(hb:b<3)(hk:k<=30):qq (ZF a k b)=(j5 (ZF a k b),0,0):=by
 refine Y1 (by rw [zdv];omega) (by rw [Vv ha hb];simp;omega) (λws hw=>?_);rw [Vv ha hb] at hw
 rcases List.mem_append.1 hw with e|e
 ·rw [List.eq_of_mem_replicate e];exact zdw ha
 rcases List.mem_cons.1 e with e|e
 ·rw [e];decide
 rw [List.mem_singleton.1 e]
 rcases vi hb with rfl|rfl|rfl<;>decide
theorem zhn {a:Nat}(ha:a<3)(x:List UInt8)(r:List (List UInt8)):atP (x:: [dgP a]::r) 1=a:=by
 have:zm6 [dgP a]=a:=by rcases vi ha with rfl|rfl|rfl<;>decide
 exact this
theorem zfC {a:Nat}(ha:a<3)(x:List UInt8)(r:List (List UInt8)):Ja (x:: [dgP a]::r) 1:=by
 unfold Ja;rw [zhn ha]
 rcases vi ha with rfl|rfl|rfl<;>rfl
def zm3(a k:Nat):List UInt8:=xN ([108,111,103]::(List.range' 0 k).map λc=>j0 a (c+1))
theorem zfD {a:Nat}(ha:a<3):∀k,k<=30->yS 1 (Zn 3 1 262144 (zt 1)) (List.replicate k (Qt a)) (QL (zt 1) [119] (Zn 3 1 262144 (zt 1)) (List.replicate k a)) (List.replicate k okT).flatten
 |0,_=>.nil
 |k+1,hk=>by
  have ih:=zfD ha k (by omega);have hok:=zlK (v:=1) (s:=zt 1) (d:=[119]) (n:=3) (l:=List.replicate k a) (i:=a) (by omega) (by simp) (λj hj=>by rw [List.eq_of_mem_replicate hj];exact ha) ha (by simp;omega);have hat:atP (Qt a) 1=a:=zhn ha _ _;obtain⟨ns,hC⟩:=Qd (v:=1) (s:=zt 1) (n:=3) (d:=[119]) (by omega) (by simp) (List.replicate k a) (λj hj=>by rw [List.eq_of_mem_replicate hj];exact ha) (by simp;omega)
  have h:=q8.send (v:=1) (S:=QL (zt 1) [119] (Zn 3 1 262144 (zt 1)) (List.replicate k a)) (S':=QL (zt 1) [119] (Zn 3 1 262144 (zt 1)) (List.replicate (k+1) a)) (ws:=Qt a) rfl rfl (zfC ha _ _) (by rw [hat,hC.wn];exact ha) (by show([119]:List UInt8).length<=100;decide) (by
   rw [hat,List.replicate_succ',zaw]
   exact Prod.ext rfl hok)
  rw [List.replicate_succ' (n:=k) (a:=Qt a),List.replicate_succ' (n:=k) (a:=okT),List.flatten_append];exact ih.append (by have:=yS.cons h .nil;simpa using this)
theorem zkX {a k:Nat}(ha:a<3)(hk:k<=30):∀m∈jw a [119] 0 k,m.1.1.toNat<100/\0<=m.1.1/\m.1.2<100:=λm hm=>by
 unfold jw at hm;obtain⟨c,hc,rfl⟩:=List.mem_map.1 hm;have:=List.mem_range'.1 hc;obtain⟨i,hi,rfl⟩:=this;simp only;omega
theorem zho {a k b:Nat}(ha:a<3)(hb:b<3)(hk:1<=k/\k<=30):∃S',xh 1 (Zn 3 1 262144 (zt 1)) (j5 (ZF a k b)) S' ((List.replicate k okT).flatten++([101,110,100,32,49,10] ++zm3 a k)):=by
 obtain⟨g,W',hF,hC,hg⟩:=ziY (v:=1) (s:=zt 1) (n:=3) (d:=[119]) (by decide) (by omega) (by simp) (l:=List.replicate k a) (λj hj=>by rw [List.eq_of_mem_replicate hj];exact ha) (by simp;omega) (r:=100) (by simp;omega);obtain⟨L, -,h2,h3,h4⟩:=hC.logs
 have aa:=h2 a ha (λj _ hj=>by
  unfold ZI
  rw [List.count_replicate,if_neg (by simpa using λe=>hj e.symm)])
 have ab:ZI (List.replicate k a) a=k:=by unfold ZI;rw [List.count_replicate_self]
 rw [ab] at aa;refine⟨QS W' b,yS.lines ?_⟩;rw [yZ,Vv ha hb];refine(zfD ha k hk.2).append ?_;have hf:=q8.fair (v:=1) (S:=QL (zt 1) [119] (Zn 3 1 262144 (zt 1)) (List.replicate k a)) (S':=W') (ws:=[[102,97,105,114],[49,48,48]]) (g:=g) rfl rfl rfl (by decide) (by rw [show atP [[102,97,105,114],[49,48,48]] 1=100 by decide];exact hF) (by simp at hg;omega);have hl:=q8.log (v:=1) (S:=W') (ws:=[[108,111,103],[dgP b]]) rfl rfl (zfC hb _ _) (by rw [zhn hb,h3];exact hb) (by rw [zhn hb,h4 b hb,aa];exact zkX ha hk.2) (by rw [zhn hb,h4 b hb,aa,yx];omega);rw [zhn hb,h4 b hb,aa] at hl;have e1:xN [[101,110,100],[49]]=[101,110,100,32,49,10]:=by decide
 rw [e1] at hf
 have e2:(jw a [119] 0 k).map (λm=>j0 m.1.1.toNat m.1.2)=(List.range' 0 k).map λc=>j0 a (c+1):=by
  unfold jw;rw [List.map_map];rfl
 rw [e2] at hl;have:=yS.cons hf (yS.cons hl .nil);rw [List.append_nil] at this;exact this
def wt0:zf:=Zn 3 1 262144 (1,0,[])
def wt1(v a:Nat):zf:=(doW (1,0,[]) wt0 ⟨10,a,v,0,0,[]⟩).1
def wt2(v a:Nat):zf:=((QK (1,0,[]) 200 100 (wt1 v a)).getD (wt1 v a,false)).1
def zlb(v a:Nat):Bool:=(match QK (1,0,[]) 200 100 (wt1 v a)with|some (_,b)=>b|none=>false)&& decide ((doW (1,0,[]) wt0 ⟨10,a,v,0,0,[]⟩).2=0)&& decide ((wt2 v a).nodes.length=3)&&
 (List.range 3).all λb=>decide ((zn (wt2 v a) b).loc.fold.eras.map (λe=>(e.1,e.2.1))=[(1,(1:Int)),(2,(v:Int))])
theorem zne:zlb 2 0=true:=by kernel_rfl
theorem znf:zlb 2 1=true:=by kernel_rfl
theorem zng:zlb 2 2=true:=by kernel_rfl
theorem znh:zlb 3 0=true:=by kernel_rfl
theorem zni:zlb 3 1=true:=by kernel_rfl
theorem znj:zlb 3 2=true:=by kernel_rfl
theorem zmC {v a:Nat}(hv:v=2∨v=3)(ha:a<3):zlb v a=true:=by
 rcases hv with rfl|rfl<;>rcases vi ha with rfl|rfl|rfl
 ·exact zne
 ·exact znf
 ·exact zng
 ·exact znh
 ·exact zni
 exact znj
def dvP(v:Nat):UInt8:=if v=2 then 50 else 51
def zdx(v a b:Nat):List UInt8:=[119,97,110,116,32,dgP a,32,dvP v,10] ++(zbJ++ [10])++ [101,114,97,115,32,dgP b]
def zjw(v a b:Nat):List (List (List UInt8)):=[[[119,97,110,116],[dgP a],[dvP v]],[[102,97,105,114],[49,48,48]],[[101,114,97,115],[dgP b]]]
def zmD(v a b:Nat):Bool:=decide (Za (jG 10 (zdx v a b))=zjw v a b)&&(zjw v a b).all (λws=> !yO ws)&& decide ((zdx v a b).length<=100)&& decide (atP [[119,97,110,116],[dgP a],[dvP v]] 1=a)&& decide (atP [[119,97,110,116],[dgP a],[dvP v]] 2=v)&& decide (atP [[101,114,97,115],[dgP b]] 1=b)
theorem zkY {v a b:Nat}(hv:v=2∨v=3)(ha:a<3)(hb:b<3):zmD v a b=true:=by
 rcases hv with rfl|rfl<;>rcases vi ha with rfl|rfl|rfl<;>rcases vi hb with rfl|rfl|rfl<;>kernel_rfl
theorem zmE {v:Nat}(hv:v=2∨v=3)(a:Nat):Ja [[119,97,110,116],[dgP a],[dvP v]] 2:=by
 rcases hv with rfl|rfl<;>rfl
theorem zhp {v a b:Nat}(hv:v=2∨v=3)(ha:a<3)(hb:b<3):qq (zdx v a b)=(j5 (zdx v a b),0,0)/\∃S',xh 1 (Zn 3 1 262144 (zt 1)) (j5 (zdx v a b)) S' (okT++([101,110,100,32,49,10] ++xN [[101,114,97,115],j0 1 1,j0 2 v])):=by
 have hR:=zkY hv ha hb;have hO:=zmC hv ha;unfold zmD at hR;simp only [Bool.and_eq_true,decide_eq_true_eq] at hR;obtain⟨⟨⟨⟨⟨r1,r2⟩,r3⟩,r4⟩,r5⟩,r6⟩:=hR;unfold zlb at hO;simp only [Bool.and_eq_true,decide_eq_true_eq,List.all_eq_true] at hO;obtain⟨⟨⟨o1,o2⟩,o3⟩,o4⟩:=hO
 have hf:QK (1,0,[]) 200 100 (wt1 v a)=some (wt2 v a,true):=by
  unfold wt2
  cases h:QK (1,0,[]) 200 100 (wt1 v a)with
  |none=>rw [h] at o1;cases o1
  |some x=>
   obtain⟨S,c⟩:=x;rw [h] at o1;simp only at o1;subst o1;rfl
 refine⟨Y1 (by omega) (by rw [r1];simp [zjw]) (λws hw=>?_),QS (wt2 v a) b,yS.lines ?_⟩
 ·rw [r1] at hw
  have:=List.all_eq_true.1 r2 ws hw
  simpa using this
 rw [yZ,r1]
 obtain⟨g,hg,hF⟩:=zbr _ _ _ _ _ _ hf;rw [← nB1] at hF
 have e0:(doW (zt 1) (Zn 3 1 262144 (zt 1)) ⟨10,a,v,0,0,[]⟩)=(wt1 v a,0):=by
  rw [nB1];exact Prod.ext rfl o2
 have hw:=q8.want (v:=1) (S:=Zn 3 1 262144 (zt 1)) (S':=wt1 v a) (ws:=[[119,97,110,116],[dgP a],[dvP v]]) rfl rfl (zfC ha _ _) (zmE hv a) (by rw [r4];show a<3;exact ha) (by rw [r4,r5];exact e0);have aa:=q8.fair (v:=1) (S:=wt1 v a) (S':=wt2 v a) (ws:=[[102,97,105,114],[49,48,48]]) (g:=g) rfl rfl rfl (by decide) (by rw [show atP [[102,97,105,114],[49,48,48]] 1=100 by decide];exact hF) (by omega);have e1:=o4 b (List.mem_range.2 hb)
 have e9:∀e∈(zn (wt2 v a) b).loc.fold.eras,e.1<100/\0<=e.2.1/\e.2.1.toNat<100:=λe he=>by
  have:=List.mem_map_of_mem (f:=λe:ZJ=>(e.1,e.2.1)) he;rw [e1] at this
  rcases List.mem_cons.1 this with h|h
  ·have h1:e.1=1:=congrArg Prod.fst h
   have h2:e.2.1=1:=congrArg Prod.snd h;omega
  have h:=List.mem_singleton.1 h
  have h1:e.1=2:=congrArg Prod.fst h;have h2:e.2.1=(v:Int):=congrArg Prod.snd h;omega
 have e8:(zn (wt2 v a) b).loc.fold.eras.length<=100:=by
  have:=congrArg List.length e1;rw [List.length_map] at this;rw [this];simp
 have hl:=q8.eras (v:=1) (S:=wt2 v a) (ws:=[[101,114,97,115],[dgP b]]) rfl rfl (zfC hb _ _) (by rw [r6,o3];exact hb) (by rw [r6];exact e9) (by rw [r6];exact e8);rw [r6] at hl
 have e2:(zn (wt2 v a) b).loc.fold.eras.map (λe=>j0 e.1 e.2.1.toNat)=[j0 1 1,j0 2 v]:=by
  have:=congrArg (List.map λ(x:Nat×Int)=>j0 x.1 x.2.toNat) e1;rw [List.map_map] at this;exact this
 rw [e2] at hl;have e3:xN [[101,110,100],[49]]=[101,110,100,32,49,10]:=by decide
 rw [e3] at aa;have:=yS.cons hw (yS.cons aa (yS.cons hl .nil));rw [List.append_nil] at this;exact this
def zl3:zf:=(doW (1,0,[]) wt0 ⟨1,(0:Nat),0,0,0,[120]⟩).1
def zl4:zf:=((QK (1,0,[]) 200 50 zl3).getD (zl3,false)).1
theorem znk:QK (1,0,[]) 200 50 zl3=some (zl4,true):=by kernel_rfl
theorem znl:(doW (1,0,[]) wt0 ⟨1,(0:Nat),0,0,0,[120]⟩).2=0:=by kernel_rfl
theorem znm:zl4.nodes.length=3:=by kernel_rfl
theorem zm4:(zn zl4 2).loc.log=[((0,1),[120])]:=by kernel_rfl
def shT:List UInt8:=[115,101,110,100,32,48,32,120,10,102,97,105,114,32,53,48,10,108,111,103,32,50]
def shB:List UInt8:=[59,32,110,111,116,104,105,110,103,10,116,97,107,101]
theorem zm5:Za (jG 10 shT)=[[[115,101,110,100],[48],[120]],[[102,97,105,114],[53,48]],[[108,111,103],[50]]]:=by kernel_rfl
theorem znn:qq shB=([],2,201):=by kernel_rfl
def shO:List UInt8:=[111,107,10,101,110,100,32,49,10,108,111,103,32,48,46,49,10]
theorem zl0:qq shT=(j5 shT,0,0)/\∃S',xh 1 (Zn 3 1 262144 (zt 1)) (j5 shT) S' shO:=by
 refine⟨Y1 (by decide) (by rw [zm5];decide) (λws hw=>?_),QS zl4 2,yS.lines ?_⟩
 ·rw [zm5] at hw
  have h: [[[115,101,110,100],[48],[120]],[[102,97,105,114],[53,48]],[[108,111,103],[50]]].all (λws=> !yO ws)=true:=by kernel_rfl
  have:=List.all_eq_true.1 h ws hw
  simpa using this
 rw [yZ,zm5]
 obtain⟨g,hg,hF⟩:=zbr _ _ _ _ _ _ znk;rw [← nB1] at hF
 have e0:(doW (zt 1) (Zn 3 1 262144 (zt 1)) ⟨1,(atP [[115,101,110,100],[48],[120]] 1:Nat),0,0,0,([[115,101,110,100],[48],[120]]:List (List UInt8))[2]?.getD []⟩)=(zl3,0):=by
  rw [nB1];exact Prod.ext rfl znl
 have hw:=q8.send (v:=1) (S:=Zn 3 1 262144 (zt 1)) (S':=zl3) (ws:=[[115,101,110,100],[48],[120]]) rfl rfl rfl (by decide) (by decide) e0;have aa:=q8.fair (v:=1) (S:=zl3) (S':=zl4) (ws:=[[102,97,105,114],[53,48]]) (g:=g) rfl rfl rfl (by decide) (by rw [show atP [[102,97,105,114],[53,48]] 1=50 by decide];exact hF) (by omega);have hl:=q8.log (v:=1) (S:=zl4) (ws:=[[108,111,103],[50]]) rfl rfl rfl (by rw [znm];decide) (by rw [show atP [[108,111,103],[50]] 1=2 by decide,zm4];simp) (by rw [show atP [[108,111,103],[50]] 1=2 by decide,zm4];decide);rw [show atP [[108,111,103],[50]] 1=2 by decide,zm4] at hl;have h:=yS.cons hw (yS.cons aa (yS.cons hl .nil))
 have e1:okT++(xN [[101,110,100],[49]] ++(xN ([108,111,103]:: [((0,1),[120])].map λm:zx=>j0 m.1.1.toNat m.1.2)++ []))=shO:=by
  have h0:vr 0=[48]:=Lib.decDigits_one (by decide);have h1:vr 1=[49]:=Lib.decDigits_one (by decide);have h2:j0 (0:Int).toNat 1=[48,46,49]:=by show j0 0 1=_;unfold j0;rw [h0,h1];rfl
  rw [List.map_cons,List.map_nil];simp only;rw [h2];decide
 rw [← e1];exact h
end
open Go Go.RowKit Go.Shelf Go.Extern.Stop Go.Stop Go.Extern
attribute [local go_sem] Oper.semAt_some zB zo
theorem Vw(a:Addr)(w:World)(he:jv w a)(hmx:ZG w):Calls prog 18 #[] w λe w'=>e=.returned (.bool true)/\Below w.heap.size w w':=by
 obtain⟨h1,S',h2⟩:=zl0;have ab:=Qs shT (by decide) h1 h2 w hmx he;have aa:=λW (hW:ZG W)=>Vu shB (by decide) 2 201 znn (by decide) W hW
 rw [show bs shT=(⟨#[115,101,110,100,32,48,32,120,10,102,97,105,114,32,53,48,10,108,111,103,32,50]⟩:ByteArray)from rfl,show bs shO=(⟨#[111,107,10,101,110,100,32,49,10,108,111,103,32,48,46,49,10]⟩:ByteArray)from rfl] at ab;rw [show bs shB=(⟨#[59,32,110,111,116,104,105,110,103,10,116,97,107,101]⟩:ByteArray)from rfl] at aa;replace ab:=hid ab;replace aa:=hid aa;clear h1 h2
 go_enter func18,ntmps18
 go_wp2_with fail
 refine ab.out.mono ?_;rintro e w1⟨rfl,ac⟩;go_wp2_with fail
 refine(aa.out _ (hmx.below ac)).mono ?_;rintro e w2⟨rfl,ad⟩;go_wp2;go_ret
 exact⟨rfl,ze ac ad⟩
theorem vC(a b:List UInt8):bs a++bs b=bs (a++b):=by simp [bs,ByteArray.ext_iff]
theorem vD {a b:List UInt8}(h:a.length+b.length<=1000000):¬(9223372036854775807<(bs a).size+(bs b).size):=by rw [zI,zI];omega
theorem zbK {a:Nat}(ha:a<3):vr a=[dgP a]:=by rcases vi ha with rfl|rfl|rfl<;>rw [zjs,Lib.decDigits_one (by omega)] <;>rfl
theorem zjx {v:Nat}(hv:v=2∨v=3):vr v=[dvP v]:=by rcases hv with rfl|rfl<;>rw [zjs,Lib.decDigits_one (by omega)] <;>rfl
theorem QV(a:Addr)(x y z:Int)(w:World)(he:jv w a)(hmx:ZG w):
 Calls prog 7 #[.int .i64 x,.int .i64 y,.int .i64 z] w λe w'=>e=.returned (.bool true)/\Below w.heap.size w w':=by
 have ab:=Vw a w he hmx;have ap:=he.lt;replace ab:=hid ab
 by_cases h1:x<2
 ·have t1:decide (x<2)=true:=by simpa using h1
  go_enter func7,ntmps7
  go_wp2_with fail
  refine ab.out.mono ?_;rintro e w1⟨rfl,aa⟩;go_wp2;go_ret
  exact⟨rfl,aa⟩
 by_cases h2:3<x
 ·have t1:decide (x<2)=false:=by simpa using h1
  have t2:decide (3<x)=true:=by simpa using h2
  go_enter func7,ntmps7
  go_wp2_with fail
  refine ab.out.mono ?_;rintro e w1⟨rfl,aa⟩;go_wp2;go_ret
  exact⟨rfl,aa⟩
 have t1:decide (x<2)=false:=by simpa using h1
 have t2:decide (3<x)=false:=by simpa using h2
 by_cases h3:y<0
 ·have t3:decide (y<0)=true:=by simpa using h3
  go_enter func7,ntmps7
  go_wp2_with fail
  refine ab.out.mono ?_;rintro e w1⟨rfl,aa⟩;go_wp2;go_ret
  exact⟨rfl,aa⟩
 have t3:decide (y<0)=false:=by simpa using h3
 by_cases h4:2<y
 ·have t4:decide (2<y)=true:=by simpa using h4
  go_enter func7,ntmps7
  go_wp2_with fail
  refine ab.out.mono ?_;rintro e w1⟨rfl,aa⟩;go_wp2;go_ret
  exact⟨rfl,aa⟩
 have t4:decide (2<y)=false:=by simpa using h4
 by_cases h5:z<0
 ·have t5:decide (z<0)=true:=by simpa using h5
  go_enter func7,ntmps7
  go_wp2_with fail
  refine ab.out.mono ?_;rintro e w1⟨rfl,aa⟩;go_wp2;go_ret
  exact⟨rfl,aa⟩
 have t5:decide (z<0)=false:=by simpa using h5
 by_cases h6:2<z
 ·have t6:decide (2<z)=true:=by simpa using h6
  go_enter func7,ntmps7
  go_wp2_with fail
  refine ab.out.mono ?_;rintro e w1⟨rfl,aa⟩;go_wp2;go_ret
  exact⟨rfl,aa⟩
 have t6:decide (2<z)=false:=by simpa using h6
 obtain⟨v,rfl⟩:∃n:Nat,x=n:=⟨x.toNat,by omega⟩;obtain⟨p,rfl⟩:∃n:Nat,y=n:=⟨y.toNat,by omega⟩;obtain⟨q,rfl⟩:∃n:Nat,z=n:=⟨z.toNat,by omega⟩;have hv:v=2∨v=3:=by omega
 have hp:p<3:=by omega
 have hq:q<3:=by omega
 obtain⟨ai,S',hR⟩:=zhp hv hp hq;have n1:=λW=>q9 p (by omega) W
 have n2:=λW=>q9 v (by omega) W
 have n3:=λW=>q9 q (by omega) W
 have l1:=yK (n:=p) (by omega);have l2:=yK (n:=v) (by omega);have l3:=yK (n:=q) (by omega)
 have hT:zdx v p q=[119,97,110,116,32] ++vr p++ [32] ++vr v++ [10,102,97,105,114,32,49,48,48,10,101,114,97,115,32] ++vr q:=by
  rw [zbK hp,zbK hq,zjx hv];rfl
 have hO:okT++([101,110,100,32,49,10] ++xN [[101,114,97,115],j0 1 1,j0 2 v])=[111,107,10,101,110,100,32,49,10,101,114,97,115,32,49,46,49,32,50,46] ++vr v++ [10]:=by
  rw [zjx hv]
  rcases hv with rfl|rfl<;>kernel_rfl
 have ah:(zdx v p q).length<=1000000:=by rw [hT];simp only [N1,List.length_cons,List.length_nil];omega
 have hr:=λW (hW:Below w.heap.size w W)=>Qs (zdx v p q) ah ai hR W (hmx.below hW) (he.below hW ap)
 rw [hT,hO] at hr;have u1:IntKind.u64.wrap (p:Int)=p:=by rw [IntKind.wrap_u64];omega
 have u2:IntKind.u64.wrap (v:Int)=v:=by rw [IntKind.wrap_u64];omega
 have u3:IntKind.u64.wrap (q:Int)=q:=by rw [IntKind.wrap_u64];omega
 obtain⟨P,hP⟩:∃l,vr p=l:=⟨_,rfl⟩;obtain⟨V,hV⟩:∃l,vr v=l:=⟨_,rfl⟩;obtain⟨Q,hQ⟩:∃l,vr q=l:=⟨_,rfl⟩;rw [hP,hV,hQ] at hr;rw [hP] at n1 l1;rw [hV] at n2 l2;rw [hQ] at n3 l3;obtain⟨k1,ac⟩:∃l:List UInt8,l=[119,97,110,116,32]:=⟨_,rfl⟩;obtain⟨k2,af⟩:∃l:List UInt8,l=[32]:=⟨_,rfl⟩;obtain⟨k3,ag⟩:∃l:List UInt8,l=[10,102,97,105,114,32,49,48,48,10,101,114,97,115,32]:=⟨_,rfl⟩;obtain⟨k4,ad⟩:∃l:List UInt8,l=[111,107,10,101,110,100,32,49,10,101,114,97,115,32,49,46,49,32,50,46]:=⟨_,rfl⟩;obtain⟨k5,ae⟩:∃l:List UInt8,l=[10]:=⟨_,rfl⟩;have b1:(⟨#[119,97,110,116,32]⟩:ByteArray)=bs k1:=by rw [ac];rfl
 have b2:(⟨#[32]⟩:ByteArray)=bs k2:=by rw [af];rfl
 have b3:(⟨#[10,102,97,105,114,32,49,48,48,10,101,114,97,115,32]⟩:ByteArray)=bs k3:=by rw [ag];rfl
 have b4:(⟨#[111,107,10,101,110,100,32,49,10,101,114,97,115,32,49,46,49,32,50,46]⟩:ByteArray)=bs k4:=by rw [ad];rfl
 have b5:(⟨#[10]⟩:ByteArray)=bs k5:=by rw [ae];rfl
 rw [← ag,← ad,← ac,← af,← ae] at hr;have m1:k1.length=5:=by rw [ac];rfl
 have m2:k2.length=1:=by rw [af];rfl
 have m3:k3.length=15:=by rw [ag];rfl
 have m4:k4.length=20:=by rw [ad];rfl
 have m5:k5.length=1:=by rw [ae];rfl
 clear ac af ag ad ae;obtain⟨x1,e1⟩:∃l,l=k1++P:=⟨_,rfl⟩;obtain⟨x2,e2⟩:∃l,l=x1++k2:=⟨_,rfl⟩;obtain⟨x3,e3⟩:∃l,l=x2++V:=⟨_,rfl⟩;obtain⟨x4,e4⟩:∃l,l=x3++k3:=⟨_,rfl⟩;obtain⟨x5,e5⟩:∃l,l=x4++Q:=⟨_,rfl⟩;obtain⟨x6,e6⟩:∃l,l=k4++V:=⟨_,rfl⟩;obtain⟨x7,e7⟩:∃l,l=x6++k5:=⟨_,rfl⟩;rw [← e1,← e2,← e3,← e4,← e5,← e6,← e7] at hr;have g1:x1.length<=10:=by rw [e1,N1];omega
 have g2:x2.length<=11:=by rw [e2,N1];omega
 have g3:x3.length<=13:=by rw [e3,N1];omega
 have g4:x4.length<=30:=by rw [e4,N1];omega
 have g6:x6.length<=30:=by rw [e6,N1];omega
 have z1:=vD (a:=k1) (b:=P) (by omega);have z2:=vD (a:=x1) (b:=k2) (by omega);have z3:=vD (a:=x2) (b:=V) (by omega);have z4:=vD (a:=x3) (b:=k3) (by omega);have z5:=vD (a:=x4) (b:=Q) (by omega);have z6:=vD (a:=k4) (b:=V) (by omega);have z7:=vD (a:=x6) (b:=k5) (by omega);have c1:bs k1++bs P=bs x1:=by rw [e1];exact vC _ _
 have c2:bs x1++bs k2=bs x2:=by rw [e2];exact vC _ _
 have c3:bs x2++bs V=bs x3:=by rw [e3];exact vC _ _
 have c4:bs x3++bs k3=bs x4:=by rw [e4];exact vC _ _
 have c5:bs x4++bs Q=bs x5:=by rw [e5];exact vC _ _
 have c6:bs k4++bs V=bs x6:=by rw [e6];exact vC _ _
 have c7:bs x6++bs k5=bs x7:=by rw [e7];exact vC _ _
 clear e1 e2 e3 e4 e5 e6 e7 hT hO hR ai ah;replace hr:=hid hr;replace n1:=hid n1;replace n2:=hid n2;replace n3:=hid n3;replace hP:=hid hP;replace hV:=hid hV;replace hQ:=hid hQ;replace hv:=hid hv
 go_enter func7,ntmps7
 go_wp2_with fail
 refine ab.out.mono ?_;rintro e w1⟨rfl,aa⟩;go_wp2_with fail
 refine(n1.out _).mono ?_;rintro e w2⟨rfl,am⟩;go_wp2_with fail
 refine(n2.out _).mono ?_;rintro e w3⟨rfl,ak⟩;go_wp2_with fail
 refine(n3.out _).mono ?_;rintro e w4⟨rfl,ao⟩;have aj:=ze (ze (ze aa am) ak) ao;go_wp2_with fail
 refine(hr.out _ aj).mono ?_;rintro e w5⟨rfl,an⟩;go_wp2_with fail
 refine(n2.out _).mono ?_;rintro e w6⟨rfl,al⟩;go_wp2;go_ret
 exact⟨rfl,ze (ze aj an) al⟩
