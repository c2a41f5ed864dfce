/- PARTS OF THE PROOF. -/
import Derived.Test.YtofppfoioodblaaGreatDoorDA25
import Derived.Test.YtofppfoioodblaaGreatDoorDA26
set_option maxRecDepth 8000
set_option maxHeartbeats 4000000
open Go.Proofs.Tryz
namespace Go.Proofs.YtofppfoioodblaaGreatDoor
section
open Go Go.RowKit Go.Shelf Go.Extern.Stop Go.Stop Go.Extern
attribute [local go_sem] Oper.semAt_some zB zo
theorem zi9(n:Nat):le4 (n % 4294967296)=le4 n:=by
 unfold le4
 have h:∀k,UInt8.ofNat (n % 4294967296 / 256 ^ k)=UInt8.ofNat (n / 256 ^ k)∨4<=k:=λk=>by
  rcases(by omega:k=0∨k=1∨k=2∨k=3∨4<=k)with rfl|rfl|rfl|rfl|h
  ·left;apply UInt8.toNat_inj.1;simp
  ·left;apply UInt8.toNat_inj.1;simp;omega
  ·left;apply UInt8.toNat_inj.1;simp;omega
  ·left;apply UInt8.toNat_inj.1;simp;omega
  right;exact h
 have h0:=(h 0).resolve_right (by omega);have h1:=(h 1).resolve_right (by omega);have h2:=(h 2).resolve_right (by omega);have h3:=(h 3).resolve_right (by omega);simp only [Nat.pow_zero,Nat.div_one,Nat.pow_one] at h0 h1;rw [h0,h1,show(65536:Nat)=256 ^ 2 by decide,h2,show(16777216:Nat)=256 ^ 3 by decide,h3]
theorem zfu(b:Nat)(w:World):Calls prog 192 #[.int .u64 (b:Nat)] w λe w'=>e=.returned (.string (bs (le8 b)))/\Below w.heap.size w w':=by
 have h1:IntKind.u32.wrap (b:Int)=((b % 4294967296:Nat):Int):=by rw [IntKind.wrap_u32];omega
 have h2:IntKind.u32.wrap ((b:Int) / 4294967296)=((b / 4294967296 % 4294967296:Nat):Int):=by rw [IntKind.wrap_u32];omega
 have ac:=JI (le4 b) (le4 (b / 4294967296)) (by rw [zY,zY];omega);have p1:=λW=>yT (b % 4294967296) W
 have p2:=λW=>yT (b / 4294967296 % 4294967296) W
 rw [zi9] at p1 p2;unfold le8
 generalize le4 b=x at*
 generalize le4 (b / 4294967296)=y at*
 generalize b % 4294967296=b1 at*
 generalize b / 4294967296 % 4294967296=b2 at*
 replace p1:=hid p1;replace p2:=hid p2
 go_enter func192,ntmps192
 go_wp2_with fail
 refine(p1.out _).mono ?_;rintro e w1⟨rfl,aa⟩;go_wp2_with fail
 refine(p2.out _).mono ?_;rintro e w2⟨rfl,ab⟩;go_wp2;go_ret
 exact⟨rfl,ze aa ab⟩
theorem zg4(w:World):Calls prog 138 #[.slice none 0 0,.string ⟨#[]⟩] w λe w'=>e=.returned (.string (bs []))/\w'=w:=by
 go_enter func138,ntmps138
 go_wp2;go_ret
 exact⟨rfl,rfl⟩
theorem zja(v:Value)(ts:List (List UInt8))(w:World)(hv:Src w v 1 ts.length (yh ts))(hn:ts.length<=1000)(hl:ts.flatten.length<=1073741824):
 Calls prog 138 #[v,.string ⟨#[]⟩] w λe w'=>e=.returned (.string (bs ts.flatten))/\Below w.heap.size w w':=by
 by_cases h0:0<ts.length
 ·exact zcP v ts w hv h0 hn hl
 have h1:ts=[]:=N9 (by omega)
 subst h1
 rcases hv.2 with⟨rfl, -⟩|⟨b,off,cap,rfl, -⟩
 ·refine(zg4 w).mono ?_
  rintro e w'⟨rfl,rfl⟩;exact⟨rfl,N2 _ _⟩
 go_enter func138,ntmps138
 go_wp2;go_ret
 exact⟨rfl,N2 _ _⟩
def xX(inst:Int)(ballot:Nat):Value:=.agg #[.int .i64 inst,.int .u64 (ballot:Nat)]
def xY(inst:Int)(ballot:Nat)(more:List UInt8):List UInt8:=le4 (inst % 4294967296).toNat++le8 ballot++more
theorem Jt(kind src dst inst:Int)(ballot:Nat)(v:Value)(ts:List (List UInt8))(w:World)(hv:Src w v 1 ts.length (yh ts))(hn:ts.length<=1000)(hl:ts.flatten.length<=1000000):
 Calls prog 145 #[.int .i64 kind,.int .i64 src,.int .i64 dst,xX inst ballot,v] w λe w'=>e=.returned (J9 kind src dst (xY inst ballot ts.flatten))/\Below w.heap.size w w':=by
 have hj:=λW hW=>zja v ts W hW hn (by omega)
 have hp:=λW=>yT (inst % 4294967296).toNat W
 have ak:IntKind.u32.wrap inst=(((inst % 4294967296).toNat:Nat):Int):=by rw [IntKind.wrap_u32];omega
 have hq:=λW=>zfu ballot W
 have a1:=JI (le4 (inst % 4294967296).toNat) (le8 ballot) (by simp [le8,zY]);have a2:=JI (le4 (inst % 4294967296).toNat++le8 ballot) ts.flatten (by rw [show(le4 (inst % 4294967296).toNat++le8 ballot).length=12 from rfl];omega);unfold xX xY J9
 generalize(inst % 4294967296).toNat=i4 at*
 generalize le4 i4=x at*
 generalize le8 ballot=y at*
 generalize ts.flatten=z at*
 obtain⟨ah,aa⟩:∃q,x++y++z=q:=⟨_,rfl⟩;rw [aa] at a2⊢;replace aa:=hid aa;replace hj:=hid hj;replace hp:=hid hp;replace hq:=hid hq;replace a1:=hid a1;replace a2:=hid a2;have km:Blk ((w.alloc (.cells #[.int .i64 inst,.int .u64 (ballot:Nat)] 171)).alloc (.cells #[.int .i64 0,.int .i64 0,.int .i64 0,.int .i64 0,.int .u32 0,.int .u32 0,.int .u32 0,.int .u32 0,.string ⟨#[]⟩] 182)) w.heap.size #[.int .i64 inst,.int .u64 (ballot:Nat)] 171:=(Blk.new rfl).alloc _;have kr:Blk ((w.alloc (.cells #[.int .i64 inst,.int .u64 (ballot:Nat)] 171)).alloc (.cells #[.int .i64 0,.int .i64 0,.int .i64 0,.int .i64 0,.int .u32 0,.int .u32 0,.int .u32 0,.int .u32 0,.string ⟨#[]⟩] 182)) (w.heap.size+1) #[.int .i64 0,.int .i64 0,.int .i64 0,.int .i64 0,.int .u32 0,.int .u32 0,.int .u32 0,.int .u32 0,.string ⟨#[]⟩] 182:=Blk.new (by simp);have ag:Below w.heap.size w ((w.alloc (.cells #[.int .i64 inst,.int .u64 (ballot:Nat)] 171)).alloc (.cells #[.int .i64 0,.int .i64 0,.int .i64 0,.int .i64 0,.int .u32 0,.int .u32 0,.int .u32 0,.int .u32 0,.string ⟨#[]⟩] 182)):=pbx
 obtain⟨va,vn,vc,rfl⟩:∃a n c,v=.slice a n c:=by
  rcases hv.2 with⟨rfl, -⟩|⟨b,off,cap,rfl, -⟩<;>exact⟨_,_,_,rfl⟩
 go_enter func145,ntmps145
 go_wp2_with fail
 refine zd [O 0,O 1,O 2,O 4,O 5,O 8,E 3,E 6,O 7,E 9,O 10,O 11] none (λw'=>Blk w' w.heap.size #[.int .i64 inst,.int .u64 (ballot:Nat)] 171/\True) (by kernel_rfl) (by kernel_rfl) ⟨km.drew,trivial⟩ ?_
 refine Wd ?_
 refine zc rfl (λK hK=>?_);go_wp2_with fail
 refine(hp.out _).mono ?_;rintro e w1⟨rfl,ac⟩;have k1:=km.drew.call ac;go_wp2;refine hK.out _ _ (λ_=>⟨k1,trivial⟩) ?_;clear hK K;refine zc rfl (λK hK=>?_);go_wp2_with fail
 refine(hq.out _).mono ?_;rintro e w2⟨rfl,ab⟩;have k2:=k1.call ab;have ai:=a1.out w2;go_wp2;refine hK.out _ _ (λ_=>⟨k2,trivial⟩) ?_;clear hK K;have ae:=a1.out
 refine Wd ?_
 refine zc rfl (λK hK=>?_);go_wp2_with fail
 refine(hj.out _ (hv.below (ze (ze (zm ag) ac) ab))).mono ?_;rintro e w3⟨rfl,ad⟩;have af:=ze (ze (ze (zm ag) ac) ab) ad;have k3:=(kr.drew.call ac).call (ze ab ad);have aj:=a2.out;go_wp2;refine hK.out _ _ (λ_=>⟨k2.call ad,trivial⟩) ?_;clear hK K ae ai
 refine Wd ?_
 refine zg ?_;have d0:w3.cell? ⟨w.heap.size+1,0,none⟩=some (.int .i64 0):=k3.cell 0;have d1:w3.cell? ⟨w.heap.size+1,1,none⟩=some (.int .i64 0):=k3.cell 1;have d2:w3.cell? ⟨w.heap.size+1,2,none⟩=some (.int .i64 0):=k3.cell 2;have d3:w3.cell? ⟨w.heap.size+1,3,none⟩=some (.int .i64 0):=k3.cell 3;have d4:w3.cell? ⟨w.heap.size+1,4,none⟩=some (.int .u32 0):=k3.cell 4;have d5:w3.cell? ⟨w.heap.size+1,5,none⟩=some (.int .u32 0):=k3.cell 5;have d6:w3.cell? ⟨w.heap.size+1,6,none⟩=some (.int .u32 0):=k3.cell 6;have d7:w3.cell? ⟨w.heap.size+1,7,none⟩=some (.int .u32 0):=k3.cell 7;have d8:w3.cell? ⟨w.heap.size+1,8,none⟩=some (.string ⟨#[]⟩):=k3.cell 8;have f3:=k3.frozen;have l3:=k3.lt;have rr:=(((((((((k3.set (o:=0) (.int .i64 1)).set (o:=1) (.int .i64 kind)).set (o:=2) (.int .i64 src)).set (o:=3) (.int .i64 dst)).set (o:=4) (.int .u32 0)).set (o:=5) (.int .u32 0)).set (o:=6) (.int .u32 0)).set (o:=7) (.int .u32 0)).set (o:=8) (.string (bs ah))).cell;go_wp2;exact bodyPost_ret (v:=.agg #[.int .i64 1,.int .i64 kind,.int .i64 src,.int .i64 dst,.int .u32 0,.int .u32 0,.int .u32 0,.int .u32 0,.string (bs ah)]) (by simp [results,Tryz.results145,go_sem,rr]) rfl ⟨rfl,(zu (zu (zu (zu (zu (zu (zu (zu (zu af (by simp) _) (by simp) _) (by simp) _) (by simp) _) (by simp) _) (by simp) _) (by simp) _) (by simp) _) (by simp) _)⟩
theorem zfv(s:List UInt8)(h8:8<=s.length)(hs:s.length<=1000000)(w:World):Calls prog 199 #[.string (bs s)] w λe w'=>e=.returned (.int .u64 (zW s 0+4294967296*zW s 4:Nat))/\Below w.heap.size w w':=by
 have ab:=zI s;have aj:=qr s 4;have ag:=xt s 4 8;unfold zW;rw [List.drop_zero];rw [show 8 - 4=4 from rfl] at ag;have af:(s.take 4).length=4:=by rw [N7];omega
 have ah:((s.drop 4).take 4).length=4:=by rw [N7,U3];omega
 have g1:=λW=>JX (s.take 4) (by omega) W
 have g2:=λW=>JX ((s.drop 4).take 4) (by omega) W
 rw [qY af] at g1;rw [qY ah] at g2;have ad:=Z5 (s.take 4);have ac:=Z5 ((s.drop 4).take 4)
 generalize s.take 4=d1 at*
 generalize(s.drop 4).take 4=d2 at*
 generalize vU d1=n1 at*
 generalize vU d2=n2 at*
 have al:=ziE n2 n1 ac ad;have aa:=zkt n2 n1 ac ad;replace aa:=hid aa;have ak:IntKind.u64.wrap (n2:Int)=(n2:Int):=by rw [IntKind.wrap_u64];omega
 have am:IntKind.u64.wrap (n1:Int)=(n1:Int):=by rw [IntKind.wrap_u64];omega
 have y1:(8:Int)<=((bs s).size:Int):=by omega
 have y2:(4:Int)<=((bs s).size:Int):=by omega
 replace ab:=hid ab;replace g1:=hid g1;replace g2:=hid g2;clear h8 hs
 go_enter func199,ntmps199
 go_wp2_with fail
 refine(g1.out _).mono ?_;rintro e w1⟨rfl,ae⟩;go_wp2_with fail
 refine(g2.out _).mono ?_;rintro e w2⟨rfl,ai⟩;go_wp2;go_ret
 exact⟨by rw [← aa.out];rfl,ze ae ai⟩
def zlO(d:List UInt8):Value:=if d.length<12 then .tuple #[.agg #[.int .i64 0,.int .u64 0],.string ⟨#[]⟩,.bool false]
 else .tuple #[xX (zW d 0:Nat) (zW d 4+4294967296*zW d 8),.string (bs (d.drop 12)),.bool true]
theorem zjb(k s t:Int)(d:List UInt8)(hd:d.length<=4096)(w:World):Calls prog 150 #[J9 k s t d] w λe w'=>e=.returned (zlO d)/\Below w.heap.size w w':=by
 have aa:=zI d;have kf:Blk ((w.alloc (.cells #[.int .i64 1,.int .i64 k,.int .i64 s,.int .i64 t,.int .u32 0,.int .u32 0,.int .u32 0,.int .u32 0,.string (bs d)] 182)).alloc (.cells #[.int .i64 0,.int .u64 0] 171)) w.heap.size #[.int .i64 1,.int .i64 k,.int .i64 s,.int .i64 t,.int .u32 0,.int .u32 0,.int .u32 0,.int .u32 0,.string (bs d)] 182:=(Blk.new rfl).alloc _;have km:Blk ((w.alloc (.cells #[.int .i64 1,.int .i64 k,.int .i64 s,.int .i64 t,.int .u32 0,.int .u32 0,.int .u32 0,.int .u32 0,.string (bs d)] 182)).alloc (.cells #[.int .i64 0,.int .u64 0] 171)) (w.heap.size+1) #[.int .i64 0,.int .u64 0] 171:=Blk.new (by simp);have ab:Below w.heap.size w ((w.alloc (.cells #[.int .i64 1,.int .i64 k,.int .i64 s,.int .i64 t,.int .u32 0,.int .u32 0,.int .u32 0,.int .u32 0,.string (bs d)] 182)).alloc (.cells #[.int .i64 0,.int .u64 0] 171)):=pbx;unfold zlO J9
 by_cases hl:d.length<12
 ·rw [if_pos hl]
  have t1:decide (((bs d).size:Int)<12)=true:=by rw [aa];simp;omega
  replace aa:=hid aa;clear hl kf hd;replace km:=hid km;replace ab:=hid ab
  go_enter func150,ntmps150
  go_wp2;exact bodyPost_ret (v:=.tuple #[.agg #[.int .i64 0,.int .u64 0],.string ⟨#[]⟩,.bool false]) (by simp [results,Tryz.results150,go_sem]) rfl ⟨rfl,ab.out⟩
 rw [if_neg hl]
 have t1:decide (((bs d).size:Int)<12)=false:=by rw [aa];simp;omega
 have ak:=qr d 4;have ai:=xt d 4 12;have al:=yy d 12;rw [show 12 - 4=8 from rfl] at ai;have ag:(d.take 4).length=4:=by rw [N7];omega
 have g1:=λW=>JX (d.take 4) (by omega) W
 rw [qY ag] at g1;have aj:((d.drop 4).take 8).length=8:=by rw [N7,U3];omega
 have g2:=λW=>zfv ((d.drop 4).take 8) (by omega) (by omega) W
 have e1:zW ((d.drop 4).take 8) 0=zW d 4:=by unfold zW;rw [List.drop_zero,List.take_take];rfl
 have e2:zW ((d.drop 4).take 8) 4=zW d 8:=by unfold zW;rw [List.drop_take,List.take_take,List.drop_drop];rfl
 rw [e1,e2] at g2;have e0:vU (d.take 4)=zW d 0:=rfl;rw [e0] at g1;have hq:=Z5 (d.take 4);rw [e0] at hq;have am:IntKind.i64.wrap ((zW d 0:Nat):Int)=((zW d 0:Nat):Int):=by rw [N8];omega
 have y1:(4:Int)<=((bs d).size:Int):=by omega
 have y2:(12:Int)<=((bs d).size:Int):=by omega
 have y3:((bs d).size:Int)<=4096:=by omega
 unfold xX
 generalize zW d 4+4294967296*zW d 8=bal at*
 generalize zW d 0=ins at*
 generalize(d.drop 4).take 8=d8 at*
 generalize d.take 4=d4 at*
 generalize d.drop 12=d12 at*
 have c0:=kf.cell;replace aa:=hid aa;replace g1:=hid g1;replace g2:=hid g2;clear hl hd ag aj hq e0 e1 e2
 go_enter func150,ntmps150
 go_wp2_with fail
 refine(g1.out _).mono ?_;rintro e w1⟨rfl,ad⟩;have af:=ze ab ad;have k1:=kf.call ad;have m1:=km.call ad;clear c0;go_wp2_with fail
 refine zd [O 0,O 1,O 2,O 3,O 4,O 7,O 8,O 9,E 5,E 6,E 10,O 11,O 12] none (λw'=>Blk w' w.heap.size #[.int .i64 1,.int .i64 k,.int .i64 s,.int .i64 t,.int .u32 0,.int .u32 0,.int .u32 0,.int .u32 0,.string (bs d)] 182/\True) (by kernel_rfl) (by kernel_rfl) ⟨k1.drew,trivial⟩ ?_
 refine Wd ?_
 refine zc rfl (λK hK=>?_);go_wp2_with fail
 refine(g2.out _).mono ?_;rintro e w2⟨rfl,ac⟩;have ae:=ze (zm af) ac;have k2:=k1.drew.call ac;have m2:=m1.drew.call ac;have ah:w.heap.size≠w.heap.size+1:=by omega
 go_wp2;refine hK.out _ _ (λ_=>⟨k2,trivial⟩) ?_;clear hK K;have d0:w2.cell? ⟨w.heap.size+1,0,none⟩=some (.int .i64 0):=m2.cell 0;have d1:w2.cell? ⟨w.heap.size+1,1,none⟩=some (.int .u64 0):=m2.cell 1;have f2:=m2.frozen;have l2:=m2.lt
 refine Wd ?_
 refine zc rfl (λK hK=>?_);go_wp2;refine hK.out _ _ (λ_=>⟨k2,trivial⟩) ?_;clear hK K
 refine Wd ?_
 refine zc rfl (λK hK=>?_);go_wp2;refine hK.out _ _ (λ_=>⟨(k2.other (p:=⟨w.heap.size+1,0,none⟩) ah (.int .i64 ins)).other (p:=⟨w.heap.size+1,1,none⟩) ah (.int .u64 bal),trivial⟩) ?_;clear hK K
 refine Wd ?_
 refine zg ?_;have rr:=((m2.set (o:=0) (.int .i64 ins)).set (o:=1) (.int .u64 bal)).cell;go_wp2;exact bodyPost_ret (v:=.tuple #[.agg #[.int .i64 ins,.int .u64 bal],.string (bs d12),.bool true]) (by simp [results,Tryz.results150,go_sem,rr]) rfl ⟨rfl,zu (zu ae (by simp) _) (by simp) _⟩
theorem zjc {S:zf}(hl:S.last<4294967295)(d:Int)(s:List UInt8):yr S d s=({S with last:=(yu S.last S.notes d s).1,notes:=(yu S.last S.notes d s).2.1},(yu S.last S.notes d s).2.2):=by
 unfold yr yu;rw [Nat.mod_eq_of_lt (by omega)]
 split<;>rfl
structure zby(S:zf):Prop where
 notes:S.notes.length<=1000
 last:S.last<4294967000
 n0:1<=S.nodes.length/\S.nodes.length<=16
theorem zr.room {v:Int}{k L:Nat}{S:zf}(h:zr v k L S)(hL:L<=3000000000):zby S:=⟨h.notesN,by have:=h.last;omega,h.n0⟩
def QN(S:zf)(k s d:Nat)(data:List UInt8):zf:=if(qU (qW k s d data)).2=0 then {S with last:=(yu S.last S.notes d (qU (qW k s d data)).1).1,notes:=(yu S.last S.notes d (qU (qW k s d data)).1).2.1} else S
theorem V6 {S:zf}(h:S.last<4294967295)(k s d:Nat)(inst:Int)(ballot:Nat)(more:List UInt8):QN S k s d (xY inst ballot more)=y8 S (ji k s d inst ballot more):=by
 unfold QN y8
 show _=if(qU (qW k s d (xY inst ballot more))).2=0 then(yr S (d:Int) (qU (qW k s d (xY inst ballot more))).1).1 else S
 rw [zjc h]
theorem Qf(B:Nat)(K:WK)(S:zf)(t:List Nat)(ow:Own)(b k s d:Nat)(hk:k<=31)(hs:s<16)(hd:d<16)(data:List UInt8)(hl:data.length<=1000000)(w:World)(h:zK B K S t ow w)(hg1:S.notes.length<=1000)(hg2:S.last<4294967295)(hb:Blk w b (zmI k s d data) 182):
 Calls prog 144 #[.pointer (some ⟨B,0,none⟩),.slice (some ⟨b,0,none⟩) 1 1] w (qK B K (QN S k s d data) t ow w (.tuple #[])):=by
 obtain⟨tv,lp,hI⟩:=h;have hB:=hI.blk;have ad:=λW=>zeA k s d data hk hs hd hl W
 have ae:=λW hW=>zgU K.fb S.last S.notes hg2 (t++ [16]) ow (d:Int) (by omega) (by omega) (qU (qW k s d data)).1 W hW hg1
 unfold J9 at ad;unfold zmI at hb;obtain⟨S',ac⟩:∃S',QN S k s d data=S':=⟨_,rfl⟩;have aa:=ac;unfold QN at aa;rw [ac]
 generalize qU (qW k s d data)=q at*
 obtain⟨q1,q2⟩:=q;simp only at ad ae aa;replace ad:=hid ad;replace ae:=hid ae
 by_cases hq:q2=0
 ·rw [if_pos hq] at aa
  have t1:(q2==0)=true:=by simp [hq]
  replace ac:=hid ac;replace aa:=hid aa;replace hq:=hid hq
  go_enter func144,ntmps144
  go_wp2
  go_loopw [10] (λp10 wr=>(p10=.int .i64 0/\wr=w)∨(p10=.int .i64 1/\qK B K S' t ow w (.tuple #[]) (.returned (.tuple #[])) wr)) (λp10 _=>1 - (intOf p10).toNat)
  case atStart=>exact .inl ⟨rfl,rfl⟩
  case round=>
   rcases hrel with⟨rfl,rfl⟩|⟨rfl,hp⟩
   ·
     have c0:=hb.cell;have e0:=hB.cell;go_wp2_with fail
     refine(ad.out _).mono ?_;rintro e w1⟨rfl,af⟩;have ab:Below wr.heap.size wr w1:=pbx;have k5:Blk w1 wr.heap.size #[.int .i64 1,.int .i64 k,.int .i64 s,.int .i64 d,.int .u32 0,.int .u32 0,.int .u32 0,.int .u32 0,.string (bs data)] 182:=(Blk.new rfl).call af;have ak:=hB.call ab;clear c0 e0;go_wp2_with fail
     refine zd [O 0,O 1,O 2,O 3,O 4,O 5,O 6,E 7] (some 7) (λw'=>Blk w' B #[.slice (some ⟨K.nb,0,none⟩) S.nodes.length K.nc,.slice (some ⟨K.sb,0,none⟩) S.nodes.length S.nodes.length,.map (some K.lm),.pointer (some ⟨K.fb,0,none⟩),.map (some K.hm),.map (some K.dm),tv] 65/\Blk w' wr.heap.size #[.int .i64 1,.int .i64 k,.int .i64 s,.int .i64 d,.int .u32 0,.int .u32 0,.int .u32 0,.int .u32 0,.string (bs data)] 182/\True) (by kernel_rfl) (by kernel_rfl) ⟨ak.drew,k5.drew,trivial⟩ ?_
     refine Wb ?_
     refine zc rfl (λK hK=>?_);go_wp2_with fail
     refine(ae.out _ ((jK.loc _ _ _ _).below hI.flight (zm ab))).mono ?_;rintro e w2⟨rfl,al,aj,hF⟩;go_wp2;refine hK.out _ _ (λhh=>absurd rfl hh) ?_;clear hK;refine zg ?_;have ah:=((zk.loc _ _ _ _ _ _).below hI (zm ab)).setFlight aj hF;go_wp2
     go_roundw
     case rel=>exact .inr ⟨rfl,rfl,al,(zp.of_below t ow (zm ab)).trans (aj.mono (Sub.child t 16)),by rw [← aa.out];exact⟨_,_,ah⟩⟩
     case measure=>simp [intOf]
   obtain⟨-,ow',ai,ag⟩:=hp
   go_wp2;go_end0
   exact⟨rfl,ow',ai,ag⟩
 rw [if_neg hq] at aa
 have t1:(q2==0)=false:=by simp [hq]
 replace ac:=hid ac;replace aa:=hid aa;replace hq:=hid hq
 go_enter func144,ntmps144
 go_wp2
 go_loopw [10] (λp10 wr=>(p10=.int .i64 0/\wr=w)∨(p10=.int .i64 1/\qK B K S' t ow w (.tuple #[]) (.returned (.tuple #[])) wr)) (λp10 _=>1 - (intOf p10).toNat)
 case atStart=>exact .inl ⟨rfl,rfl⟩
 case round=>
  rcases hrel with⟨rfl,rfl⟩|⟨rfl,hp⟩
  ·
    have c0:=hb.cell;have e0:=hB.cell;go_wp2_with fail
    refine(ad.out _).mono ?_;rintro e w1⟨rfl,af⟩;have ab:Below wr.heap.size wr w1:=pbx;have k5:Blk w1 wr.heap.size #[.int .i64 1,.int .i64 k,.int .i64 s,.int .i64 d,.int .u32 0,.int .u32 0,.int .u32 0,.int .u32 0,.string (bs data)] 182:=(Blk.new rfl).call af;have ak:=hB.call ab;clear c0 e0;have ah:=(zk.loc _ _ _ _ _ _).below hI ab;go_wp2
    go_roundw
    case rel=>exact .inr ⟨rfl,rfl,ow,zp.of_below t ow ab,by rw [← aa.out];exact⟨_,_,ah⟩⟩
    case measure=>simp [intOf]
  obtain⟨-,ow',ai,ag⟩:=hp
  go_wp2;go_end0
  exact⟨rfl,ow',ai,ag⟩
theorem zg5(S:zf)(f:yQ)(hn:S.notes.length<=1000)(hl:S.last<4294967295):(y8 S f).notes.length<=1000/\(y8 S f).last<=S.last+1/\(y8 S f).nodes=S.nodes:=by
 refine⟨?_,?_,(x9 S f).1⟩
 ·unfold y8 yr
  split
  ·split
   ·exact hn
   show(S.notes++ [_]).length<=_
   rw [N1,U2];omega
  exact hn
 unfold y8 yr
 split
 ·split
  ·show S.last<=_;omega
  show(S.last+1)% 4294967296<=_;omega
 omega
def ZD(S:zf)(kind src inst:Int)(ballot:Nat)(more:List UInt8)(j:Nat):zf:=(List.range j).foldl (λw (i:Nat)=>y8 w (ji kind src i inst ballot more)) S
theorem Qg(S:zf)(kind src inst:Int)(ballot:Nat)(more:List UInt8)(j:Nat):ZD S kind src inst ballot more (j+1)=y8 (ZD S kind src inst ballot more j) (ji kind src j inst ballot more):=by
 unfold ZD;rw [List.range_succ,List.foldl_append];rfl
theorem Qh {S:zf}(h:zby S)(kind src inst:Int)(ballot:Nat)(more:List UInt8):∀(j:Nat),j<=16->(ZD S kind src inst ballot more j).notes.length<=1000/\(ZD S kind src inst ballot more j).last<=S.last+j/\(ZD S kind src inst ballot more j).nodes=S.nodes
 |0,_=>⟨h.notes,N0 _,rfl⟩
 |j+1,hj=>by
  obtain⟨h1,h2,h3⟩:=Qh h kind src inst ballot more j (by omega);rw [Qg];have h4:=zg5 (ZD S kind src inst ballot more j) (ji kind src j inst ballot more) h1 (by have:=h.last;omega);exact⟨h4.1,by omega,h4.2.2.trans h3⟩
theorem Z9(B:Nat)(K:WK)(S:zf)(t:List Nat)(ht:t≠ [])(ow:Own)(k s:Nat)(hk:k<=31)(hs:s<16)(inst:Int)(ballot:Nat)(v:Value)(ts:List (List UInt8))(w:World)(h:zK B K S t ow w)(hg:zby S)
 (hv:Src w v 1 ts.length (yh ts)) (hn:ts.length<=1000) (hl:ts.flatten.length<=900000) (hv0:∀a l c,v=.slice (some a) l c->ow a.block=[]):
 Calls prog 98 #[.pointer (some ⟨B,0,none⟩),.int .i64 k,.int .i64 s,xX inst ballot,v] w (qK B K (j1 S k s inst ballot ts.flatten) t ow w (.tuple #[])):=by
 have ad:=λ(j:Nat) W hW=>Jt k s j inst ballot v ts W hW hn (by omega)
 have al:=λ(j:Nat) hj ow W b hW h1 h2 hb=>Qf B K (ZD S k s inst ballot ts.flatten j) t ow b k s j hk hs hj (xY inst ballot ts.flatten) (by unfold xY;rw [N1,show(le4 (inst % 4294967296).toNat++le8 ballot).length=12 from rfl];omega) W hW h1 h2 hb
 obtain⟨N,hN⟩:∃N,S.nodes.length=N:=⟨_,rfl⟩;have aw:N<=16:=by have:=hg.n0;omega
 have h':=h;obtain⟨az,a1,ao⟩:=h';have ag:=ao.blk;have ay:=ag.lt;have ai:j1 S k s inst ballot ts.flatten=ZD S k s inst ballot ts.flatten N:=by unfold j1 ZD;rw [hN]
 rw [ai];have aa:=Qh hg k s inst ballot ts.flatten;have ab:=λ(j:Nat) h1=>(V6 (S:=ZD S k s inst ballot ts.flatten j) h1 k s j inst ballot ts.flatten).trans (Qg S k s inst ballot ts.flatten j).symm
 have a3:=hg.last;have ae:Below w.heap.size w (w.alloc (.cells #[.int .i64 inst,.int .u64 (ballot:Nat)] 171)):=pbx;have ap:=(zK.loc B K S t).cut h ae;have km:Blk (w.alloc (.cells #[.int .i64 inst,.int .u64 (ballot:Nat)] 171)) w.heap.size #[.int .i64 inst,.int .u64 (ballot:Nat)] 171:=Blk.new rfl;have af:=hv.below ae
 have ak:∀a l c,v=.slice (some a) l c->¬Sub t ((ow.cut w) a.block):=λa l c e=>by
  by_cases ad:a.block<w.heap.size
  ·rw [Own.cut_old ad,hv0 a l c e];exact zj ht
  rw [Own.cut_new (by omega)];exact zj ht
 obtain⟨w1,aj⟩:∃w1,w1=w.alloc (.cells #[.int .i64 inst,.int .u64 (ballot:Nat)] 171):=⟨_,rfl⟩;have a2:w1.heap.size=w.heap.size+1:=by rw [aj];simp
 rw [← aj] at ae ap km af;have e0:=ag.cell;have e1:=(ag.call ae).cell
 generalize hoc:ow.cut w=ow1 at*
 rw [hN] at e0 e1
 obtain⟨va,vn,vc,rfl⟩:∃a n c,v=.slice a n c:=by
  rcases hv.2 with⟨rfl, -⟩|⟨b,off,cap,rfl, -⟩<;>exact⟨_,_,_,rfl⟩
 unfold xX at*;replace ad:=hid ad;replace al:=hid al;replace ai:=hid ai;replace aa:=hid aa;replace ab:=hid ab;replace ak:=hid ak;replace hoc:=hid hoc;replace af:=hid af;replace km:=hid km;clear hv hv0 h ag ao
 go_enter func98,ntmps98
 go_wp2;rw [← aj]
 go_loopw [16] (λp16 wr=>∃(j:Nat)(ow':Own),p16=.int .i64 (j:Nat)/\j<=N/\zp t ow1 w1 ow' wr/\zK B K (ZD S k s inst ballot ts.flatten j) t ow' wr) (λp16 _=>N - (intOf p16).toNat)
 case atStart=>exact⟨0,ow1,rfl,by omega,zp.refl _ _ _,ap⟩
 case round=>
  obtain⟨j,ow',rfl,hj,ah,hW⟩:=hrel;clear e0 e1
  by_cases hjN:j<N
  ·have t2:decide ((j:Int)<(N:Int))=true:=by simpa using hjN
   have a0:IntKind.i64.wrap ((j:Int)+1)=(j:Int)+1:=by rw [N8];omega
   have ac:=ah;rw [← hoc.out] at ac;have hm:=ac.free ht (k:=w.heap.size) (N0 _) (by omega);have cm:=(km.out.kept hm.1).cell;have ax:=af.out.step ah (λa l c e=>ak.out a l c e);go_wp2_with fail
   refine(ad.out j _ ax).mono ?_;rintro e w2⟨rfl,am⟩;unfold J9;have aq:=aa.out j (by omega);go_wp2_with fail
   refine(al.out j (by omega) ow' _ _ ((zK.loc B K _ t).below hW (zi am _)) aq.1 (by omega) (Blk.new rfl)).mono ?_;rintro e w3⟨rfl,ar,au,an⟩;rw [ab.out j (by omega)] at an;clear cm;go_wp2
   go_roundw
   case rel=>exact⟨j+1,ar,by simp,by omega,ah.trans ((zp.of_below t ow' (zi am _)).trans au),an⟩
   case measure=>simp [intOf];omega
  obtain rfl:j=N:=by omega
  have t2:decide ((j:Int)<(j:Int))=false:=by simp
  go_wp2;go_end0
  have ac:=ah;rw [← hoc.out] at ac;exact⟨rfl,ow',zp.wrap ae ac,hW⟩
theorem QO(b:Nat)(w:World):(binOp .eql 63 (.map (some b)) (.map none)).run prog w=.ok (.bool false) w:=by kernel_rfl
variable {B:Nat}{K:WK}{tv:Value}{lp:Nat->Option Nat}{S:zf}{t:List Nat}{ow:Own}
theorem V7(w:World)(h:zk B K tv lp S t ow w):Calls prog 26 #[.pointer (some ⟨B,0,none⟩)] w λe w'=>e=.returned (.bool false)/\w'=w:=by
 have e0:=h.blk.cell;have h0:=QO K.dm w;clear h
 go_enter func26,ntmps26
 go_wp2;go_ret
 exact⟨rfl,rfl⟩
theorem Qi(i:Int)(w:World)(h:zk B K tv lp S t ow w):Calls prog 31 #[.pointer (some ⟨B,0,none⟩),.int .i64 i] w λe w'=>e=.returned (.bool (decide (0<=i)&& decide (i<(S.nodes.length:Int))))/\w'=w:=by
 have e0:=h.blk.cell;clear h
 cases h0:decide (0<=i)
 ·go_enter func31,ntmps31
  go_wp2;go_ret
  exact⟨rfl,rfl⟩
 cases h1:decide (i<(S.nodes.length:Int))
 ·go_enter func31,ntmps31
  go_wp2;go_ret
  exact⟨rfl,rfl⟩
 go_enter func31,ntmps31
 go_wp2;go_ret
 exact⟨rfl,rfl⟩
theorem zeC(k:Int)(w:World):Calls prog 30 #[.int .i64 k] w λe w'=>e=.returned (.bool (!(decide (3<=k)&& decide (k<=6))))/\w'=w:=by
 by_cases h:3<=k/\k<=6
 ·rw [show(!(decide (3<=k)&& decide (k<=6)))=false by simp;omega]
  rcases(by omega:k=3∨k=4∨k=5∨k=6)with rfl|rfl|rfl|rfl
  all_goals
   clear h
   go_enter func30,ntmps30
   go_wp2;go_ret
   exact⟨rfl,rfl⟩
 rw [show(!(decide (3<=k)&& decide (k<=6)))=true by simp;omega]
 have t1:(k==3)=false:=by simp;omega
 have t2:(k==4)=false:=by simp;omega
 have t3:(k==5)=false:=by simp;omega
 have t4:(k==6)=false:=by simp;omega
 clear h
 go_enter func30,ntmps30
 go_wp2;go_ret
 exact⟨rfl,rfl⟩
theorem Zw(w:World)(h:zk B K tv lp S t ow w)(hn:S.notes.length<=1000):Calls prog 65 #[.pointer (some ⟨B,0,none⟩)] w λe w'=>e=.returned (.int .i64 (S.notes.length:Nat))/\Below w.heap.size w w':=by
 have hi:=V7 w h;have ha:=zi2 K.fb S.last S.notes (t++ [16]) ow w h.flight hn;have e0:=h.blk.cell;replace hi:=hid hi;replace ha:=hid ha;clear h
 go_enter func65,ntmps65
 go_wp2_with fail
 refine hi.out.mono ?_;rintro e w1⟨rfl,aa⟩;obtain rfl:=aa.symm;go_wp2_with fail
 refine ha.out.mono ?_;rintro e w2⟨v',rfl,h1,h2⟩;obtain⟨a,m,c,hv⟩:=h1.shape
 have hm:m=S.notes.length:=by
  rcases h1.form with⟨h,h0, -⟩|⟨g,cap,h, -⟩
  ·rw [h] at hv;cases hv;exact h0.symm
  rw [h] at hv;cases hv;rfl
 subst hm;subst hv
 go_wp2;go_ret
 exact⟨rfl,h2⟩
def zmu(S:zf)(p:Int):Nat×Bool:=if p<0 then(0,false)else match S.notes[p.toNat]? with
 |none=>(0,false)
 |some x=>(x.1,true)
end
section
open Go Go.RowKit Go.Shelf Go.Extern.Stop Go.Stop Go.Extern
attribute [local go_sem] Oper.semAt_some zB zo
theorem zkG(n:Nat)(b:Bool)(x:Int)(w:World):(Instr.checkKey b (n+1+1) 132 (.agg #[.int .i64 x])).run prog w=.ok () w:=by
 simp [Instr.checkKey,go_sem]
theorem zjd:qe prog 132 QM where
 eq:=λk k' w=>by
  have h:(Op.equal 132 (QM k) (QM k')).run prog w=(Op.equalIn 10000 132 (.agg #[.int .i64 k]) (.agg #[.int .i64 k'])).run prog w:=rfl;rw [h];simp [go_sem]
  by_cases h1:k=k'<;>simp [h1]
 chk:=λb k w=>zkG 9998 b k w
 bits:=λk=>by simp [QM,Instr.sameBits]
 now:=⟨_,Tryz.underlying132,λk k'=>by left;rfl⟩
theorem zkH(i j:Int)(a b:Nat)(w:World):(binOp .eql 171 (.agg #[.int .i64 i,.int .u64 (a:Nat)]) (.agg #[.int .i64 j,.int .u64 (b:Nat)])).run prog w=.ok (.bool (decide (i=j)&& decide (a=b))) w:=by
 have h:(Op.equalIn Op.maxDepth 171 (.agg #[.int .i64 i,.int .u64 (a:Nat)]) (.agg #[.int .i64 j,.int .u64 (b:Nat)])).run prog w=.ok (decide (i=j)&& decide (a=b)) w:=by
  have h2:(Op.equalIn (9998+1+1) 171 (.agg #[.int .i64 i,.int .u64 (a:Nat)]) (.agg #[.int .i64 j,.int .u64 (b:Nat)])).run prog w=.ok (decide (i=j)&& decide (a=b)) w:=by
   simp [go_sem]
   by_cases h1:i=j<;>by_cases h2:a=b<;>simp [h1,h2] <;>omega
  exact h2
 simp [binOp,Op.equal,h,Result.andThen,go_sem]
variable {B:Nat}{K:WK}{tv:Value}{lp:Nat->Option Nat}{S:zf}{t:List Nat}{ow:Own}
def zmJ(p:Option Nat):Value:=.pointer (p.map λb=>⟨b,0,none⟩)
def VS(S:zf)(i:Nat)(inst:Int)(ballot:Nat):Bool:=match zH (i:Int) S.leads with
 |none=>false
 |some l=>decide (l.inst=inst)&& decide (l.ballot=ballot)
theorem Qj(i:Nat)(inst:Int)(ballot:Nat)(w:World)(h:zk B K tv lp S t ow w):Calls prog 203 #[.pointer (some ⟨B,0,none⟩),.int .i64 i,xX inst ballot] w λe w'=>
 e=.returned (.tuple #[zmJ (lp i),.bool (VS S i inst ballot)])/\Below w.heap.size w w':=by
 have hB:=h.blk;have ad:Below w.heap.size w (w.alloc (.cells #[.int .i64 inst,.int .u64 (ballot:Nat)] 171)):=pbx;have ah:=hB.call ad;obtain⟨-,ps, -,hM,ae⟩:=h.leadsM;have aa:=h.lead i;have ac:=(hM.kept (ad.block _ hM.lt)).lookup_ok zjd Tryz.underlying58 (z:=.pointer none) (by kernel_rfl) (i:Int);rw [ae i] at ac;unfold QM at ac;have km:Blk (w.alloc (.cells #[.int .i64 inst,.int .u64 (ballot:Nat)] 171)) w.heap.size #[.int .i64 inst,.int .u64 (ballot:Nat)] 171:=Blk.new rfl;unfold VS zmJ xX;have e0:=hB.cell;have l0:=hB.lt;clear hM h hB;replace ae:=hid ae
 cases hl:lp i with
 |none=>
  cases hk:zH (i:Int) S.leads with
  |some l=>rw [hl,hk] at aa;exact aa.elim
  |none=>
   rw [hl] at ac;simp only [Option.map_none,Option.getD_none,Option.isSome_none] at ac⊢;clear aa hk hl
   go_enter func203,ntmps203
   go_wp2_with fail
   refine zd [O 0,O 1,O 2,O 3,O 4,O 5,O 6,O 7,O 8,O 9,O 10,O 11] none (λw'=>True) (by kernel_rfl) (by kernel_rfl) trivial ?_
   refine We ?_
   refine Wm ?_
   refine We ?_
   refine zg ?_;go_wp2;go_ret2
   exact⟨rfl,zm ad⟩
 |some lb=>
  cases hk:zH (i:Int) S.leads with
  |none=>rw [hl,hk] at aa;exact aa.elim
  |some l=>
   rw [hl] at ac;rw [hl,hk] at aa;simp only [Option.map_some,Option.getD_some,Option.isSome_some] at ac⊢;obtain⟨-, -,pv,af, -⟩:=aa;have ab:=af.call ad;have c0:(w.alloc (.cells #[.int .i64 inst,.int .u64 (ballot:Nat)] 171)).cell? ⟨lb,0,none⟩=some (.int .i64 l.inst):=ab.cell 0;have c1:(w.alloc (.cells #[.int .i64 inst,.int .u64 (ballot:Nat)] 171)).cell? ⟨lb,1,none⟩=some (.int .u64 (l.ballot:Nat)):=ab.cell 1;have ag:=λW=>zkH l.inst inst l.ballot ballot W
   generalize(decide (l.inst=inst)&& decide (l.ballot=ballot))=bq at*
   generalize l.inst=li at*
   generalize l.ballot=lba at*
   clear hk hl af ab
   go_enter func203,ntmps203
   go_wp2_with fail
   refine zd [O 0,O 1,O 2,O 3,O 4,O 5,O 6,O 7,O 8,O 9,O 10,O 11] none (λw'=>Blk w' w.heap.size #[.int .i64 inst,.int .u64 (ballot:Nat)] 171/\w'.cell? ⟨lb,0,none⟩=some (.int .i64 li)/\w'.cell? ⟨lb,1,none⟩=some (.int .u64 (lba:Nat))/\True) (by kernel_rfl) (by kernel_rfl) ⟨km.drew,c0,c1,trivial⟩ ?_
   (repeat (refine za (v:=?_) rfl rfl (λw' h=>?_) (λK k=>?_);rotate_left;obtain⟨f1,f2,f3,_⟩:=h;have e1:=f1.cell;go_simp;(try with_reducible rfl);go_simp;refine k _ ?_;clear k K))
   refine zg ?_;go_wp2;go_ret2
   exact⟨rfl,zm ad⟩
end
section
open Go Go.RowKit Go.Shelf Go.Extern.Stop Go.Stop Go.Extern
attribute [local go_sem] Oper.semAt_some zB zo
section
variable {pv:Value}{l:ye}
theorem QP(h1:l.promised.length=16){q:Nat}(hq:q<16):(zE pv l)[4+q]?=some (.bool (l.promised[q]?.getD false)):=by
 unfold zE;rw [U6 (by simp),U8 (by simp;omega),List.getElem?_map];simp only [List.length_cons,List.length_nil,Nat.add_sub_cancel_left];rw [N3 (by omega)];rfl
theorem QQ(h1:l.promised.length=16)(h2:l.voted.length=16){q:Nat}(hq:q<16):(zE pv l)[20+q]?=some (.bool (l.voted[q]?.getD false)):=by
 unfold zE;rw [U6 (by simp;omega),U6 (by simp;omega),U8 (by simp;omega),List.getElem?_map];simp only [List.length_cons,List.length_nil,List.length_map,h1];rw [show 20+q - (0+1+1+1+1) - 16=q by omega,N3 (by omega)];rfl
theorem vg(h1:l.promised.length=16)(h2:l.voted.length=16)(q:Nat):(zE pv l)[36+q]?=[Value.int .i64 (l.votes:Nat),.bool l.asked,.bool l.told][q]?:=by
 unfold zE;rw [U6 (by simp;omega),U6 (by simp;omega),U6 (by simp;omega)];simp only [List.length_cons,List.length_nil,List.length_map,h1,h2];rw [show 36+q - (0+1+1+1+1) - 16 - 16=q by omega]
theorem zc8(h1:l.promised.length=16){q:Nat}(hq:q<16)(b:Bool):(zE pv l).set (4+q) (.bool b)=zE pv {l with promised:=l.promised.set q b} :=by
 unfold zE;rw [List.set_append_right _ _ (by simp),List.set_append_left _ _ (by simp;omega)];simp only [List.length_cons,List.length_nil,Nat.add_sub_cancel_left];rw [List.map_set]
theorem zc9(h1:l.promised.length=16)(h2:l.voted.length=16){q:Nat}(hq:q<16)(b:Bool):(zE pv l).set (20+q) (.bool b)=zE pv {l with voted:=l.voted.set q b} :=by
 unfold zE;rw [List.set_append_right _ _ (by simp;omega),List.set_append_right _ _ (by simp;omega),List.set_append_left _ _ (by simp;omega)];simp only [List.length_cons,List.length_nil,List.length_map,h1];rw [show 20+q - (0+1+1+1+1) - 16=q by omega,List.map_set]
theorem J6(h1:l.promised.length=16)(h2:l.voted.length=16)(q:Nat)(u:Value):(zE pv l).set (36+q) u=[.int .i64 l.inst,.int .u64 (l.ballot:Nat),.string (bs l.value),pv] ++(l.promised.map Value.bool++(l.voted.map Value.bool++ [Value.int .i64 (l.votes:Nat),.bool l.asked,.bool l.told].set q u)):=by
 unfold zE;rw [List.set_append_right _ _ (by simp;omega),List.set_append_right _ _ (by simp;omega),List.set_append_right _ _ (by simp;omega)];simp only [List.length_cons,List.length_nil,List.length_map,h1,h2];rw [show 36+q - (0+1+1+1+1) - 16 - 16=q by omega]
theorem zbz(h1:l.promised.length=16)(h2:l.voted.length=16)(n:Nat):(zE pv l).set 36 (.int .i64 (n:Nat))=zE pv {l with votes:=n} :=J6 h1 h2 0 _
theorem zbA(h1:l.promised.length=16)(h2:l.voted.length=16)(b:Bool):(zE pv l).set 37 (.bool b)=zE pv {l with asked:=b} :=J6 h1 h2 1 _
theorem zda(h1:l.promised.length=16)(h2:l.voted.length=16)(b:Bool):(zE pv l).set 38 (.bool b)=zE pv {l with told:=b} :=J6 h1 h2 2 _
end
theorem Blk.setL {w:World}{b o:Nat}{cs cs':List Value}{t:TypeId}(h:Blk w b cs.toArray t){v:Value}(he:cs.set o v=cs'):Blk (w.setCell ⟨b,o,none⟩ v) b cs'.toArray t:=by
 have h':=h.set (o:=o) v;rw [List.setIfInBounds_toArray,he] at h';exact h'
theorem Blk.cellL {w:World}{b:Nat}{cs:List Value}{t:TypeId}(h:Blk w b cs.toArray t){o:Nat}{v:Value}(he:cs[o]?=some v):w.cell? ⟨b,o,none⟩=some v:=by
 rw [h.cell,List.getElem?_toArray,he]
theorem Ju {lb:Nat}{l l':ye}{pv:Value}{u:List Nat}{ow:Own}{W W':World}(hB:Blk W lb (zE pv l).toArray 175)(hR:Row W 317 3 pv l.promises.length (l.promises.flatMap zN))(o1:ow lb=u)(o2:∀g,pv.ownBlock=some g->ow g=u)
 (hM:Mod (λk=>k=lb) W W') (hB':Blk W' lb (zE pv l').toArray 175) (hp:l'.promises=l.promises) (h1:l'.promised.length=16) (h2:l'.voted.length=16):zp u ow W ow W'/\YT lb l' u ow W':=by
 refine⟨⟨hM.mono (λk _ e=>by subst e;rw [o1];exact Sub.rfl' u),λ_ _=>rfl⟩,h1,h2,pv,hB',?_,o1,o2⟩;rw [hp];exact hR.mod hM (λg hg e=>hR.ne_blk hB (by decide) hg e)
variable {B:Nat}{K:WK}{tv:Value}{lp:Nat->Option Nat}{S:zf}{t:List Nat}{ow ow':Own}{W W':World}
theorem zk.setLead(h:zk B K tv lp S t ow W){i lb:Nat}{l1:ye}(hlp:lp i=some lb)(hs:zp (t++ [i+32]) ow W ow' W')(hL:YT lb l1 (t++ [i+32]) ow' W'):zk B K tv lp {S with leads:=put (i:Int) l1 S.leads} t ow' W':=by
 refine h.setPart (i+32) hs rfl (λj hj=>?_) ?_
 ·by_cases hj32:j<32
  ·unfold xW
   simp only [if_pos hj32]
  have aa:((j - 32:Nat):Int)≠(i:Int):=by omega
  unfold xW;simp only [Z8,if_neg aa]
 unfold xW
 rw [if_neg (by omega),if_neg (by omega),if_neg (by omega),if_neg (by omega),if_neg (by omega),if_neg (by omega),if_neg (by omega),if_neg (by omega),if_neg (by omega),Nat.add_sub_cancel];simp only [Z8,if_pos,hlp];exact hL
theorem zk.leadAt(h:zk B K tv lp S t ow W){i:Nat}{l:ye}(hl:zH (i:Int) S.leads=some l):∃lb,lp i=some lb/\YT lb l (t++ [i+32]) ow W:=by
 have:=h.lead i;rw [hl] at this
 cases hp:lp i with
 |none=>rw [hp] at this;exact this.elim
 |some lb=>rw [hp] at this;exact⟨lb,rfl,this⟩
end
open Go Go.RowKit Go.Shelf Go.Extern.Stop Go.Stop Go.Extern
attribute [local go_sem] Oper.semAt_some zB zo
theorem zbB {K V:Type} [DecidableEq K](i:K)(x y:V):∀l:List (K×V),put i y (put i x l)=put i y l
 | []=>by simp [put]
 |(a,b)::l=>by
  unfold put
  by_cases h:i=a
  ·rw [if_pos h];simp [put,h]
  rw [if_neg h];simp only [put,if_neg h];rw [zbB i x y l]
theorem zbC(B:Nat)(K:WK)(S:zf)(t:List Nat)(ht:t≠ [])(ow:Own)(i src:Nat)(hi:i<16)(hsrc:src<16)(inst:Int)(ballot:Nat)(w:World)(h:zK B K S t ow w)(hg:zby S)(hlv:∀l,zH (i:Int) S.leads=some l->l.value.length<=900000/\l.votes<=1000):
 Calls prog 153 #[.pointer (some ⟨B,0,none⟩),.int .i64 i,.int .i64 src,xX inst ballot] w (qK B K (countVote S i src inst ballot) t ow w (.tuple #[])):=by
 obtain⟨tv,lp,hI⟩:=h;have al:Below w.heap.size w (w.alloc (.cells #[.int .i64 inst,.int .u64 (ballot:Nat)] 171)):=pbx;have ah:=(zk.loc B K tv lp S t).cut hI al;have km:Blk (w.alloc (.cells #[.int .i64 inst,.int .u64 (ballot:Nat)] 171)) w.heap.size #[.int .i64 inst,.int .u64 (ballot:Nat)] 171:=Blk.new rfl;have a7:(ow.cut w) w.heap.size=[]:=Own.cut_new (N0 _);have ae:=λW hW=>Qj (B:=B) (K:=K) (tv:=tv) (lp:=lp) (S:=S) (t:=t) (ow:=ow.cut w) i inst ballot W hW
 obtain⟨ag,ao⟩:∃o,ow.cut w=o:=⟨_,rfl⟩;have bk:zp t ag w ag w:=zp.refl _ _ _;rw [ao] at ah a7 ae;unfold xX at*;clear hI
 cases hbb:VS S i inst ballot with
 |false=>
  have ad:countVote S i src inst ballot=S:=by
   unfold countVote;unfold VS at hbb
   cases hl:zH (i:Int) S.leads with
   |none=>rfl
   |some l=>
    rw [hl] at hbb;simp only at hbb⊢;rw [if_pos]
    by_cases h1:l.inst=inst
    ·right;left;intro h2;simp [h1,h2] at hbb
    left;exact h1
  rw [ad];rw [hbb] at ae;replace ae:=hid ae;clear ad hbb
  go_enter func153,ntmps153
  go_wp2_with fail
  refine(ae.out _ ah).mono ?_;rintro e w2⟨rfl,aa⟩;have ak:=(zk.loc B K tv lp S t).below ah aa;have af:=ze al aa;go_wp2;go_end0
  exact⟨rfl,ag,zp.wrap af (by rw [ao];exact zp.refl _ _ _),tv,lp,ak⟩
 |true=>
  obtain⟨l,hl,bv,bi⟩:∃l,zH (i:Int) S.leads=some l/\l.inst=inst/\l.ballot=ballot:=by
   unfold VS at hbb
   cases hl:zH (i:Int) S.leads with
   |none=>rw [hl] at hbb;cases hbb
   |some l=>rw [hl] at hbb;simp at hbb;exact⟨l,rfl,hbb.1,hbb.2⟩
  obtain⟨lb,aq,h1,h2,pv,ai,an,o1,o2⟩:=ah.leadAt hl;rw [hbb,aq] at ae;unfold zmJ at ae;simp only [Option.map_some] at ae
  have ad:countVote S i src inst ballot=if l.told∨l.voted[src]?.getD false then S
   else if 2*(l.votes+1)<=S.nodes.length then {S with leads:=put (i:Int) {l with voted:=l.voted.set src true,votes:=l.votes+1} S.leads}
   else j1 {S with leads:=put (i:Int) {l with voted:=l.voted.set src true,votes:=l.votes+1,told:=true} S.leads} 7 i inst ballot l.value:=by
   unfold countVote;rw [hl];simp only
   by_cases hc:l.told∨l.voted[src]?.getD false
   ·rw [if_pos (.inr (.inr hc)),if_pos hc]
   rw [if_neg hc,if_neg (by rw [bv,bi];simp only [ne_eq,not_true_eq_false,false_or];exact hc)]
  have bo:=hlv l hl;have am:=QQ (pv:=pv) h1 h2 hsrc;have a5:=vg (pv:=pv) h1 h2 2;have bl:=vg (pv:=pv) h1 h2 0;obtain⟨vd,a2⟩:∃b,l.voted[src]?.getD false=b:=⟨_,rfl⟩;rw [a2] at am ad;have y0:(0:Int)<=(src:Int):=by omega
  have y1:(src:Int)<16:=by omega
  replace ae:=hid ae;replace a2:=hid a2;replace hlv:=hid hlv;replace hbb:=hid hbb;replace hl:=hid hl;replace aq:=hid aq;replace o2:=hid o2
  by_cases hc:l.told=true∨vd=true
  ·rw [if_pos hc] at ad
   rw [ad];replace ad:=hid ad
   cases ax:l.told with
   |true=>
    go_enter func153,ntmps153
    go_wp2_with fail
    refine(ae.out _ ah).mono ?_;rintro e w2⟨rfl,aa⟩;have ak:=(zk.loc B K tv lp S t).below ah aa;have af:=ze al aa;have aj:=(ai.call aa).cellL a5;simp only [Nat.reduceAdd,ax] at aj;go_wp2;go_end0
    exact⟨rfl,ag,zp.wrap af (by rw [ao];exact zp.refl _ _ _),tv,lp,ak⟩
   |false=>
    have a1:vd=true:=by rw [ax] at hc;simpa using hc
    subst a1
    go_enter func153,ntmps153
    go_wp2_with fail
    refine(ae.out _ ah).mono ?_;rintro e w2⟨rfl,aa⟩;have ak:=(zk.loc B K tv lp S t).below ah aa;have af:=ze al aa;have aj:=(ai.call aa).cellL a5;have bd:=(ai.call aa).cellL am;simp only [Nat.reduceAdd,ax] at aj;clear hc;go_wp2;go_end0
    exact⟨rfl,ag,zp.wrap af (by rw [ao];exact zp.refl _ _ _),tv,lp,ak⟩
  rw [if_neg hc] at ad
  rw [not_or] at hc;have ax:l.told=false:=by simpa using hc.1
  have br:vd=false:=by simpa using hc.2
  subst br;replace ad:=hid ad;clear hc
  go_enter func153,ntmps153
  go_wp2_with fail
  refine(ae.out _ ah).mono ?_;rintro e w2⟨rfl,aa⟩;have ak:=(zk.loc B K tv lp S t).below ah aa;have af:=ze al aa;have ab:=ai.call aa;have aj:=ab.cellL a5;have bd:=ab.cellL am;have ar:=ab.cellL bl;have f2:=ab.frozen;have l2:=ab.lt;have bw:IntKind.i64.wrap ((l.votes:Int)+1)=((l.votes+1:Nat):Int):=by rw [N8];omega
  go_wp2_with fail
  have bt:(l.votes:Int)+1=((l.votes+1:Nat):Int):=by omega
  rw [bt];obtain⟨w3,ay⟩:∃w3,w3=(w2.setCell ⟨lb,20+src,none⟩ (.bool true)).setCell ⟨lb,36,none⟩ (.int .i64 ((l.votes+1:Nat):Int)):=⟨_,rfl⟩;have a6:Mod (λk=>k=lb) w2 w3:=by rw [ay];exact((Mod.refl (λk=>k=lb) w2).thenSet (p:=⟨lb,20+src,none⟩) rfl _).thenSet (p:=⟨lb,36,none⟩) rfl _
  have ac:Blk w3 lb (zE pv {l with voted:=l.voted.set src true,votes:=l.votes+1}).toArray 175:=by
   rw [ay];exact(ab.setL (zc9 h1 h2 hsrc true)).setL (zbz (l:={l with voted:=l.voted.set src true}) h1 (by simp [h2]) (l.votes+1))
  rw [← ay];clear ay aj bd ar f2 l2;obtain⟨a9,bn⟩:=Ju (l':={l with voted:=l.voted.set src true,votes:=l.votes+1}) ab (an.below aa) o1 o2.out a6 ac rfl h1 (by simp [h2]);have a3:=ak.setLead aq.out a9 bn;have be:lb≠w.heap.size:=λe=>by rw [e,a7] at o1;simp at o1
  have ba:=(km.call aa).kept (a6.block _ (km.call aa).lt (λe=>be e.symm));have ar:=ac.cellL (vg (l:={l with voted:=l.voted.set src true,votes:=l.votes+1}) h1 (by simp [h2]) 0);have c2:w3.cell? ⟨lb,2,none⟩=some (.string (bs l.value)):=ac.cell 2;have a4:=a3.blk;have au:zp t ag (w.alloc (.cells #[.int .i64 inst,.int .u64 (ballot:Nat)] 171)) ag w3:=(zp.of_below t ag aa).trans (a9.mono (Sub.child t (i+32)));have b0:IntKind.i64.wrap (2*((l.votes+1:Nat):Int))=((2*(l.votes+1):Nat):Int):=by rw [N8];omega
  simp only [Nat.add_zero] at ar;obtain⟨N,hN⟩:∃N,S.nodes.length=N:=⟨_,rfl⟩;simp only [hN] at a4;have bz:(l.votes+1:Nat)=(l.votes+1:Nat):=rfl
  generalize hV:l.votes+1=V at*
  have f3:=ac.frozen;have l3:=ac.lt;have aj:=ac.cellL (vg (l:={l with voted:=l.voted.set src true,votes:=V}) h1 (by simp [h2]) 2);simp only [Nat.reduceAdd] at aj;replace hV:=hid hV;refine zd [O 0,O 1,O 2,O 3,O 4,O 5,O 6,O 7,O 8,O 9,O 10] none (λw'=>w'.cell? ⟨lb,36,none⟩=some (.int .i64 (V:Nat))/\Blk w' B #[.slice (some ⟨K.nb,0,none⟩) N K.nc,.slice (some ⟨K.sb,0,none⟩) N N,.map (some K.lm),.pointer (some ⟨K.fb,0,none⟩),.map (some K.hm),.map (some K.dm),tv] 65/\True) (by kernel_rfl) (by kernel_rfl) ⟨ar,a4.drew,trivial⟩ ?_
  (repeat (refine za (v:=?_) rfl rfl (λw' h=>?_) (λK k=>?_);rotate_left;obtain⟨f1,f2,_⟩:=h;have e2:=f2.cell;go_simp;(try with_reducible rfl);go_simp;refine k _ ?_;clear k K))
  refine zg ?_
  by_cases hle:2*V<=N
  ·have t9:decide (2*V<=N)=true:=by simpa using hle
   rw [hN,if_pos hle] at ad;go_wp2;go_end0
   exact⟨rfl,ag,zp.wrap al (by rw [ao];exact au.trans (zp.drew _ _ _)),by rw [ad.out];exact⟨tv,lp,(zk.loc B K tv lp _ t).below a3 (zm (N2 _ _))⟩⟩
  have t9:decide (2*V<=N)=false:=by simpa using hle
  rw [hN,if_neg hle] at ad;go_wp2_with fail
  obtain⟨w4,az⟩:∃w4,w4=w3.setCell ⟨lb,38,none⟩ (.bool true):=⟨_,rfl⟩;have bf:Mod (λk=>k=lb) w3 w4:=by rw [az];exact(Mod.refl (λk=>k=lb) w3).thenSet (p:=⟨lb,38,none⟩) rfl _
  have ap:Blk w4 lb (zE pv {l with voted:=l.voted.set src true,votes:=V,told:=true}).toArray 175:=by
   rw [az];exact ac.setL (zda (l:={l with voted:=l.voted.set src true,votes:=V}) h1 (by simp [h2]) true)
  obtain⟨a8,bj⟩:=Ju (l:={l with voted:=l.voted.set src true,votes:=V}) (l':={l with voted:=l.voted.set src true,votes:=V,told:=true}) ac ((an.below aa).mod a6 (λg hg e=>(an.below aa).ne_blk ab (by decide) hg e)) o1 o2.out bf ap rfl h1 (by simp [h2]);have bh:=a3.setLead aq.out a8 bj;have bc:=ba.kept (bf.block _ ba.lt (λe=>be e.symm));have bb:w4.cell? ⟨lb,2,none⟩=some (.string (bs l.value)):=ap.cell 2;rw [← az];clear az ar c2 f3 l3 aj a4;obtain⟨W5,a0⟩:∃W5,W5=(w4.alloc (.cells #[.string (bs l.value)] 9)).drew.drew:=⟨_,rfl⟩;have bg:Below w4.heap.size w4 W5:=by rw [a0];exact zm (zm (zi (N2 _ _) _))
  have bm:=(zk.loc B K tv lp _ t).cut bh bg;have k5:Blk W5 w4.heap.size #[.string (bs l.value)] 9:=by rw [a0];exact(Blk.new rfl).drew.drew
  have aw:=Z9 B K {S with leads:=put (i:Int) {l with voted:=l.voted.set src true,votes:=V,told:=true} (put (i:Int) {l with voted:=l.voted.set src true,votes:=V} S.leads)} t ht (ag.cut w4) 7 i (by omega) hi inst ballot (.slice (some ⟨w4.heap.size,0,none⟩) 1 1) [l.value] W5 ⟨tv,lp,bm⟩ ⟨hg.notes,hg.last,hg.n0⟩ (jD (n:=1) (size:=1) (cap:=1) k5 rfl (N0 1)) (by simp) (by simp;omega) (λa l' c e=>by cases e;exact Own.cut_new (N0 _));rw [show [l.value].flatten=l.value by simp,zbB] at aw;unfold xX at aw;replace aw:=hid aw;refine zd [O 0,O 1,O 2,O 3,O 4,O 5,O 6,E 7,E 8] (some 8) (λw'=>Blk w' w.heap.size #[.int .i64 inst,.int .u64 (ballot:Nat)] 171/\w'.cell? ⟨lb,2,none⟩=some (.string (bs l.value))/\True) (by kernel_rfl) (by kernel_rfl) ⟨bc.drew,bb,trivial⟩ ?_
  refine Wn ?_
  refine zc rfl (λK hK=>?_);go_wp2;refine hK.out _ _ (λ_=>⟨(bc.alloc _).drew,jo (w:=w4) bb _,trivial⟩) ?_;clear hK
  refine Wn ?_
  rw [← a0];clear a0;refine zc rfl (λK hK=>?_);go_wp2_with fail
  refine aw.out.mono ?_;rintro e w6⟨rfl,bq,bu,bp⟩;go_wp2;refine hK.out _ _ (λhh=>absurd rfl hh) ?_;clear hK;refine zg ?_;go_wp2;go_end0
  exact⟨rfl,bq,zp.wrap al (by rw [ao];exact(au.trans (a8.mono (Sub.child t (i+32)))).trans (zp.wrap bg bu)),by rw [ad.out];exact bp⟩
