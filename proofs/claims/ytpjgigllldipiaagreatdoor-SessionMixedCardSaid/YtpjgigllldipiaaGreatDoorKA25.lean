/- layout: what a value is read by: the state, the closures. -/
import Derived.Test.YtpjgigllldipiaaGreatDoorKA23
import Derived.Test.YtpjgigllldipiaaGreatDoorKA17
set_option linter.all false
set_option maxRecDepth 100000
set_option maxHeartbeats 3200000
namespace Go.Proofs.YtpjgigllldipiaaGreatDoor
open Tryz
open Go.RowKit
def zc:=@List.setIfInBounds_toArray
def zh:=@List.set_cons_succ
def xJ:=@results150
structure jh (w:World)(g gl fb:Nat)(s:ByteArray)(k:Nat)(f m:Int):Prop where
 rdr:iI w g s k f
 left:af w gl 3 #[.int .i64 m]
 box:af w fb 163 #[.pointer (some ⟨g,0,none⟩)]
theorem af.DC {w:World}{g c:Nat}{t d:TypeId}{e i:Array Value}(h:af w g t e)(b:af w c d i)(j:t≠d):g≠c:=by
 rintro rfl;unfold af at h b;rw[h]at b;injection b with b;injection b with _ ht;exact j ht
theorem jh.apart {w:World}{g gl b:Nat}{s:ByteArray}{k:Nat}{f m:Int}(h:jh w g gl b s k f m):gl≠g/\b≠g/\b≠gl:=⟨h.left.DC h.rdr (by decide),h.box.DC h.rdr (by decide),h.box.DC h.left (by decide)⟩
theorem jh.below {w w':World}{g gl c:Nat}{s:ByteArray}{k:Nat}{f m:Int}(h:jh w g gl c s k f m)(b:Below w.heap.size w w'):jh w' g gl c s k f m:=
 ⟨(b.block _ h.rdr.lt).trans h.rdr,(b.block _ h.left.lt).trans h.left,(b.block _ h.box.lt).trans h.box⟩
theorem jh.dw {w w':World}{g gl b:Nat}{s:ByteArray}{k d:Nat}{f e m:Int}(h:jh w g gl b s k f m)(c:ae [g] w w')(i:iI w' g s d e):jh w' g gl b s d e m:=
 ⟨i,h.left.only c (by simp[h.apart.1]),h.box.only c (by simp[h.apart.2.1])⟩
def gX (g gl fb:Nat):Value:= .agg #[.func (.func 120) #[.pointer (some ⟨g,0,none⟩)] #[],.func (.func 141) #[.pointer (some ⟨g,0,none⟩)] #[],.func (.func 121) #[.pointer (some ⟨g,0,none⟩)] #[],.func (.func 142) #[.pointer (some ⟨g,0,none⟩)] #[],.func (.func 143) #[] #[.pointer (some ⟨fb,0,none⟩)],.pointer (some ⟨gl,0,none⟩)]
theorem Px (N:Nat×Nat×Int)(z:Nat):pT N z<=z:=by
 rcases nF N z 0 with⟨_,_,h,_⟩|⟨_,_,_,h,_⟩|⟨_,b,_,h,_⟩<;>omega
theorem BP (g gl b:Nat)(s:ByteArray)(k z:Nat)(m:Int)(w:World)(h:jh w g gl b s k 0 m)(o:k<=s.size)(l:s.size<=9223372036854775807)(hz:z<=65536)(q:bj w)(i:g≠0):
 Calls prog 143 #[.int .i64 z,.pointer (some ⟨b,0,none⟩)] w fun e w'=>e= .returned (.int .i64 (pT (au (s.data.toList.drop k)) z))/\jh w' g gl b s (sA (au (s.data.toList.drop k)) z k) (nY (au (s.data.toList.drop k)) z) m/\ae [g] w w':=by
 have A:w.cell? ⟨b,0,none⟩=some (.pointer (some ⟨g,0,none⟩)):=h.box.cell 0;have r:=za (Pb g s k z w h.rdr o l (by omega) q i);have x:=Px (au (s.data.toList.drop k)) z;have j:=za h;generalize pT (au (s.data.toList.drop k)) z=N at*;generalize sA (au (s.data.toList.drop k)) z k=K at*;generalize nY (au (s.data.toList.drop k)) z=E at*;have y:IntKind.u64.wrap (z:Int)=z:=xZ _ (by omega);clear h;go_enter func143,ntmps143
 go_wp2_with fail
 refine r.out.mono ?_;rintro e u ⟨rfl,d,c⟩;have n:=za (j.out.dw c d);have p:=za c;clear d c;go_wp2;go_ret;exact⟨by go_num,n.out,p.out⟩
theorem Wr (i:Int)(d b o n cap:Nat)(k z B:Int)(j c m l:Value)(w:World)(h:af w d 64 #[.int .i64 k,.int .i64 z,.slice (some ⟨b,o,none⟩) n cap,.int .i64 B])(I:0<n)(M:n<=9223372036854775807)
 (H:w.cell? ⟨b,o,none⟩=some j) (J:w.cell? ⟨b,o+1,none⟩=some c) (G:w.cell? ⟨b,o+2,none⟩=some m) (K:w.cell? ⟨b,o+3,none⟩=some l) (E:b<w.heap.size)
 (r q s:Int) (p:Option Addr) (u x:Nat) (A:j= .int .i64 r) (C:c= .int .i64 q) (y:m= .slice p u x) (D:l= .int .i64 s):
 Calls prog 188 #[.int .i64 i,.pointer (some ⟨d,0,none⟩)] w fun e w'=>e= .returned (.tuple #[.agg #[j,c,m,l],.bool true])/\Below w.heap.size w w':=by
 have F:w.cell? ⟨d,2,none⟩=some (.slice (some ⟨b,o,none⟩) n cap):=h.cell 2;have L:=h.lt;subst A C y D;clear h;go_enter func188,ntmps188
 go_wp2;refine zo (v:= .tuple #[.agg #[.int .i64 r,.int .i64 q,.slice p u x,.int .i64 s],.bool true]) (by simp[results,results188,go_sem]) rfl ⟨rfl,bN⟩
theorem fB {w:World}{g:Nat}{t:TypeId}{a b c d e f:Value}(h:af w g t #[a,b,c,d,e,f]):w.cell? ⟨g,0,none⟩=some a/\w.cell? ⟨g,1,none⟩=some b/\w.cell? ⟨g,2,none⟩=some c/\w.cell? ⟨g,3,none⟩=some d/\w.cell? ⟨g,4,none⟩=some e/\w.cell? ⟨g,5,none⟩=some f:=⟨h.cell 0,h.cell 1,h.cell 2,h.cell 3,h.cell 4,h.cell 5⟩
def jN (g gl fb:Nat):Array Value:= #[.func (.func 120) #[.pointer (some ⟨g,0,none⟩)] #[],.func (.func 141) #[.pointer (some ⟨g,0,none⟩)] #[],.func (.func 121) #[.pointer (some ⟨g,0,none⟩)] #[],.func (.func 142) #[.pointer (some ⟨g,0,none⟩)] #[],.func (.func 143) #[] #[.pointer (some ⟨fb,0,none⟩)],.pointer (some ⟨gl,0,none⟩)]
theorem kS {w:World}{g:Nat}{p:Addr}(e:p.block≠g)(a b c d:Value):((((w.drew.setCell ⟨g,0,none⟩ a).setCell ⟨g,1,none⟩ b).setCell ⟨g,2,none⟩ c).setCell ⟨g,3,none⟩ d).cell? p=w.cell? p:=
 zL (by
  rw[zY _ _ _ _ e,zY _ _ _ _ e,zY _ _ _ _ e,zY _ _ _ _ e];rfl)
theorem cE {w:World}{g:Nat}{p:Addr}(e:p.block≠g)(m:Nat)(a b c d:Value):(((((w.drewN m).setCell ⟨g,0,none⟩ a).setCell ⟨g,1,none⟩ b).setCell ⟨g,2,none⟩ c).setCell ⟨g,3,none⟩ d).cell? p=w.cell? p:=
 zL (by
  rw[zY _ _ _ _ e,zY _ _ _ _ e,zY _ _ _ _ e,zY _ _ _ _ e];rfl)
theorem Ws (i:Nat)(j A g gl fb b o n cap:Nat)(s:ByteArray)(I:Nat)(m:Int)(k ad d:Int)(f0 f1 f2 f3:Value)(w:World)(h:af w j 64 #[.int .i64 k,.int .i64 ad,.slice (some ⟨b,o,none⟩) n cap,.int .i64 d])(hr:af w A 197 (jN g gl fb))(fl:Int)(sS:jh w g gl fb s I fl m)(ab:I<=s.size)(hs:s.size<=9223372036854775807)(hn:i<n)(Gv:n<=9223372036854775807)(nJ:0<=d)(I8:d<=n)
 (h0:w.cell? ⟨b,o+i*4,none⟩=some f0) (h1:w.cell? ⟨b,o+i*4+1,none⟩=some f1) (h2:w.cell? ⟨b,o+i*4+2,none⟩=some f2) (h3:w.cell? ⟨b,o+i*4+3,none⟩=some f3) (Z:b<w.heap.size)
 (l q y:Int) (x:Option Addr) (r u:Nat) (e0:f0= .int .i64 l) (e1:f1= .int .i64 q) (e2:f2= .slice x r u) (e3:f3= .int .i64 y):
 Calls prog 189 #[.int .i64 i,.pointer (some ⟨j,0,none⟩),.pointer (some ⟨A,0,none⟩)] w fun e w'=>e= .returned (.tuple #[.agg #[f0,f1,f2,f3],.bool (decide ((i:Int)<(n:Int)-d)||decide (I<s.size))])/\Below w.heap.size w w':=by
 have c:Below w.heap.size w (w.alloc (.cells #[.int .i64 0,.int .i64 0,.slice none 0 0,.int .i64 0] 64)):=bN;have mc:=fun V (hb:Below w.heap.size w V)=>uY g s I fl V ((hb.block _ sS.rdr.lt).trans sS.rdr) ab hs
 have RX:=za mc;have H:=(c.cell (p:=⟨j,2,none⟩) h.lt).trans (show w.cell? ⟨j,2,none⟩=some (.slice (some ⟨b,o,none⟩) n cap)from h.cell 2);have G:=(c.cell (p:=⟨j,3,none⟩) h.lt).trans (show w.cell? ⟨j,3,none⟩=some (.int .i64 d)from h.cell 3);have DJ:=hr.lt;have ae:=h.lt;obtain⟨r0,r1,r2,r3,r4,r5⟩:=fB (show af w A 197 #[_,_,_,_,_,_]from hr);have J:=(c.cell (p:=⟨A,3,none⟩) DJ).trans r3;have F:=(c.cell (p:=⟨b,_,none⟩) Z).trans h0;have B:=(c.cell (p:=⟨b,_,none⟩) Z).trans h1;have E:=(c.cell (p:=⟨b,_,none⟩) Z).trans h2;have D:=(c.cell (p:=⟨b,_,none⟩) Z).trans h3;subst e0 e1 e2 e3;have tq:=af.new w 64 #[.int .i64 0,.int .i64 0,.slice none 0 0,.int .i64 0];have L:=za tq;have O:=za c;generalize GA:w.alloc (.cells #[.int .i64 0,.int .i64 0,.slice none 0 0,.int .i64 0] 64)=C at*;clear h hr sS r0 r1 r2 r3 r4 r5 h0 h1 h2 h3 c mc tq;by_cases aC:(i:Int)<(n:Int)-d
 ·have d1:decide ((i:Int)<(n:Int)-d)=true:=zH aC;rw[d1,Bool.true_or];go_enter func189,ntmps189
  go_wp2_with fail
  have ew:IntKind.i64.wrap ((n:Int)-d)=(n:Int)-d:=yh _ (by omega);refine aA 20 (fun V=>V.cell? ⟨j,2,none⟩=some (.slice (some ⟨b,o,none⟩) n cap)/\V.cell? ⟨j,3,none⟩=some (.int .i64 d)/\V.cell? ⟨b,o+i*4,none⟩=some (.int .i64 l)/\V.cell? ⟨b,o+i*4+1,none⟩=some (.int .i64 q)/\V.cell? ⟨b,o+i*4+2,none⟩=some (.slice x r u)/\V.cell? ⟨b,o+i*4+3,none⟩=some (.int .i64 y)) (by kernel_rfl) (by kernel_rfl) ?_;have hHeld:(fun V:World=>V.cell? ⟨j,2,none⟩=some (.slice (some ⟨b,o,none⟩) n cap)/\V.cell? ⟨j,3,none⟩=some (.int .i64 d)/\V.cell? ⟨b,o+i*4,none⟩=some (.int .i64 l)/\V.cell? ⟨b,o+i*4+1,none⟩=some (.int .i64 q)/\V.cell? ⟨b,o+i*4+2,none⟩=some (.slice x r u)/\V.cell? ⟨b,o+i*4+3,none⟩=some (.int .i64 y)) C.drew:=⟨H,G,F,B,E,D⟩
  refine GT.jy [0,1,2,3,4,5,6,7,8,9,10,11,12,13,14,15,16,17,18] hHeld (fun _ _ _ _ _ h=>h) (by kernel_rfl) ?_;iterate 11 (refine .c rfl rfl (fun V c=>by go_simp<;>with_reducible rfl) ?_;simp only[Act.put,zc,ze,zh])
  refine .c (v:= .int .i64 ((n:Int)-d)) rfl rfl (fun V c=>by go_simp<;>with_reducible rfl) ?_;try simp only[Act.put,zc,ze,zh];refine .c (v:= .bool true) rfl rfl (fun V c=>by go_simp<;>with_reducible rfl) ?_;try simp only[Act.put,zc,ze,zh];refine .c (v:= .bool true) rfl rfl (fun V c=>by go_simp<;>with_reducible rfl) ?_;try simp only[Act.put,zc,ze,zh];refine .u rfl rfl ?_;try simp only[Act.put,zc,ze,zh];refine .u rfl rfl ?_;try simp only[Act.put,zc,ze,zh];refine .u rfl rfl ?_;try simp only[Act.put,zc,ze,zh];refine .u rfl rfl ?_;try simp only[Act.put,zc,ze,zh];refine .c rfl rfl (fun V c=>by go_simp<;>with_reducible rfl) ?_;simp only[Act.put,zc,ze,zh];refine .nil ?_;obtain⟨n0,n1,n2,n3,m0,m1,m2,m3⟩:=aO L.out;refine GT.fw 19 (fun K z=> ?_) rfl (by kernel_rfl);go_simp;refine z.out _ _ ⟨(kS (by simp;omega) _ _ _ _).trans H,(kS (by simp;omega) _ _ _ _).trans G,(kS (by simp;omega) _ _ _ _).trans F,(kS (by simp;omega) _ _ _ _).trans B,(kS (by simp;omega) _ _ _ _).trans E,(kS (by simp;omega) _ _ _ _).trans D⟩ (fun hHeld=> ?_);clear z K;try simp only[Act.put,zc,ze,zh]
  refine GT.oL 20 ?_ rfl (by kernel_rfl);go_simp;go_wp2;have hX:=((((L.out.set 0 (.int .i64 l)).set 1 (.int .i64 q)).set 2 (.slice x r u)).set 3 (.int .i64 y)).drew;have X:Below w.heap.size w ((((C.setCell ⟨w.heap.size,0,none⟩ (.int .i64 l)).setCell ⟨w.heap.size,1,none⟩ (.int .i64 q)).setCell ⟨w.heap.size,2,none⟩ (.slice x r u)).setCell ⟨w.heap.size,3,none⟩ (.int .i64 y)).drew:=((((O.out.setCell (by simp) _).setCell (by simp) _).setCell (by simp) _).setCell (by simp) _).drew;obtain⟨x0,x1,x2,x3,_⟩:=aO (show af _ _ _ #[.int .i64 l,.int .i64 q,.slice x r u,.int .i64 y]from hX);refine zo (v:= .tuple #[.agg #[.int .i64 l,.int .i64 q,.slice x r u,.int .i64 y],.bool true]) (by simp[results,results189,go_sem,x0,x1,x2,x3]) rfl ⟨rfl,X⟩
 have d1:decide ((i:Int)<(n:Int)-d)=false:=zz aC;rw[d1,Bool.false_or];have ew:IntKind.i64.wrap ((n:Int)-d)=(n:Int)-d:=yh _ (by omega);by_cases hk:I<s.size
 ·have d3:decide (I<s.size)=true:=zH hk;rw[d3];go_enter func189,ntmps189
  go_wp2_with fail
  refine aA 20 (fun V=>V.cell? ⟨j,2,none⟩=some (.slice (some ⟨b,o,none⟩) n cap)/\V.cell? ⟨j,3,none⟩=some (.int .i64 d)/\V.cell? ⟨b,o+i*4,none⟩=some (.int .i64 l)/\V.cell? ⟨b,o+i*4+1,none⟩=some (.int .i64 q)/\V.cell? ⟨b,o+i*4+2,none⟩=some (.slice x r u)/\V.cell? ⟨b,o+i*4+3,none⟩=some (.int .i64 y)/\V.cell? ⟨A,3,none⟩=some (.func (.func 142) #[.pointer (some ⟨g,0,none⟩)] #[])) (by kernel_rfl) (by kernel_rfl) ?_;have hHeld:(fun V:World=>V.cell? ⟨j,2,none⟩=some (.slice (some ⟨b,o,none⟩) n cap)/\V.cell? ⟨j,3,none⟩=some (.int .i64 d)/\V.cell? ⟨b,o+i*4,none⟩=some (.int .i64 l)/\V.cell? ⟨b,o+i*4+1,none⟩=some (.int .i64 q)/\V.cell? ⟨b,o+i*4+2,none⟩=some (.slice x r u)/\V.cell? ⟨b,o+i*4+3,none⟩=some (.int .i64 y)/\V.cell? ⟨A,3,none⟩=some (.func (.func 142) #[.pointer (some ⟨g,0,none⟩)] #[])) C.drew:=⟨H,G,F,B,E,D,J⟩
  refine GT.jy [0,1,2,3,4,5,6,7,8,9,10,11,12,13,14,15] hHeld (fun _ _ _ _ _ h=>h) (by kernel_rfl) ?_;iterate 11 (refine .c rfl rfl (fun V c=>by go_simp<;>with_reducible rfl) ?_;simp only[Act.put,zc,ze,zh])
  refine .c (v:= .int .i64 ((n:Int)-d)) rfl rfl (fun V c=>by go_simp<;>with_reducible rfl) ?_;try simp only[Act.put,zc,ze,zh];refine .c (v:= .bool false) rfl rfl (fun V c=>by go_simp<;>with_reducible rfl) ?_;try simp only[Act.put,zc,ze,zh];refine .c (v:= .bool false) rfl rfl (fun V c=>by go_simp<;>with_reducible rfl) ?_;try simp only[Act.put,zc,ze,zh];refine .c (v:= .pointer (some ⟨A,3,none⟩)) rfl rfl (fun V c=>by go_simp<;>with_reducible rfl) ?_;try simp only[Act.put,zc,ze,zh];refine .c (v:= .func (.func 142) #[.pointer (some ⟨g,0,none⟩)] #[]) rfl rfl (fun V c=>by go_simp<;>with_reducible rfl) ?_;try simp only[Act.put,zc,ze,zh];refine .nil ?_;refine GT.fw 16 (fun K z=> ?_) rfl (by kernel_rfl);go_simp;refine(RX.out C.drew O.out.drew).mono ?_;rintro e w2 ⟨rfl,nq,rfl⟩;go_wp2_with fail
  refine z.out _ _ ⟨H,G,F,B,E,D,J⟩ (fun hHeld=> ?_);clear z K;try simp only[Act.put,zc,ze,zh]
  refine GT.jy [17,18] hHeld (fun _ _ _ _ _ h=>h) (by kernel_rfl) ?_;refine .c (v:= .bool true) rfl rfl (fun V c=>by go_simp<;>with_reducible rfl) ?_;try simp only[Act.put,zc,ze,zh];refine .c (v:= .bool true) rfl rfl (fun V c=>by go_simp<;>with_reducible rfl) ?_;try simp only[Act.put,zc,ze,zh];refine .nil ?_;obtain⟨n0,n1,n2,n3,m0,m1,m2,m3⟩:=aO L.out;refine GT.fw 19 (fun K z=> ?_) rfl (by kernel_rfl);go_simp;refine z.out _ _ ⟨(cE (by simp;omega) _ _ _ _ _).trans H,(cE (by simp;omega) _ _ _ _ _).trans G,(cE (by simp;omega) _ _ _ _ _).trans F,(cE (by simp;omega) _ _ _ _ _).trans B,(cE (by simp;omega) _ _ _ _ _).trans E,(cE (by simp;omega) _ _ _ _ _).trans D,(cE (by simp;omega) _ _ _ _ _).trans J⟩ (fun hHeld=> ?_);clear z K;try simp only[Act.put,zc,ze,zh]
  refine GT.oL 20 ?_ rfl (by kernel_rfl);go_simp;go_wp2;have S:=(L.out.drewN (1+nq)).set 0 (.int .i64 l);have W:=S.set 1 (.int .i64 q);have N:=W.set 2 (.slice x r u);have aa:=N.set 3 (.int .i64 y);have U:=S.cell 0;have M:=W.cell 1;have Y:=N.cell 2;have R:=aa.cell 3;simp at U M Y R;have X:Below w.heap.size w (((((C.drewN (1+nq)).setCell ⟨w.heap.size,0,none⟩ (.int .i64 l)).setCell ⟨w.heap.size,1,none⟩ (.int .i64 q)).setCell ⟨w.heap.size,2,none⟩ (.slice x r u)).setCell ⟨w.heap.size,3,none⟩ (.int .i64 y)):=(((((O.out.bB _).setCell (by simp) _).setCell (by simp) _).setCell (by simp) _).setCell (by simp) _)
  refine zo (v:= .tuple #[.agg #[.int .i64 l,.int .i64 q,.slice x r u,.int .i64 y],.bool true]) (by simp[results,results189,go_sem,U,M,Y,R]) rfl ⟨rfl,X⟩
 have d3:decide (I<s.size)=false:=zz hk;rw[d3];go_enter func189,ntmps189
 go_wp2_with fail
 refine aA 20 (fun V=>V.cell? ⟨j,2,none⟩=some (.slice (some ⟨b,o,none⟩) n cap)/\V.cell? ⟨j,3,none⟩=some (.int .i64 d)/\V.cell? ⟨b,o+i*4,none⟩=some (.int .i64 l)/\V.cell? ⟨b,o+i*4+1,none⟩=some (.int .i64 q)/\V.cell? ⟨b,o+i*4+2,none⟩=some (.slice x r u)/\V.cell? ⟨b,o+i*4+3,none⟩=some (.int .i64 y)/\V.cell? ⟨A,3,none⟩=some (.func (.func 142) #[.pointer (some ⟨g,0,none⟩)] #[])) (by kernel_rfl) (by kernel_rfl) ?_;have hHeld:(fun V:World=>V.cell? ⟨j,2,none⟩=some (.slice (some ⟨b,o,none⟩) n cap)/\V.cell? ⟨j,3,none⟩=some (.int .i64 d)/\V.cell? ⟨b,o+i*4,none⟩=some (.int .i64 l)/\V.cell? ⟨b,o+i*4+1,none⟩=some (.int .i64 q)/\V.cell? ⟨b,o+i*4+2,none⟩=some (.slice x r u)/\V.cell? ⟨b,o+i*4+3,none⟩=some (.int .i64 y)/\V.cell? ⟨A,3,none⟩=some (.func (.func 142) #[.pointer (some ⟨g,0,none⟩)] #[])) C.drew:=⟨H,G,F,B,E,D,J⟩
 refine GT.jy [0,1,2,3,4,5,6,7,8,9,10,11,12,13,14,15] hHeld (fun _ _ _ _ _ h=>h) (by kernel_rfl) ?_;iterate 11 (refine .c rfl rfl (fun V c=>by go_simp<;>with_reducible rfl) ?_;simp only[Act.put,zc,ze,zh])
 refine .c (v:= .int .i64 ((n:Int)-d)) rfl rfl (fun V c=>by go_simp<;>with_reducible rfl) ?_;try simp only[Act.put,zc,ze,zh];refine .c (v:= .bool false) rfl rfl (fun V c=>by go_simp<;>with_reducible rfl) ?_;try simp only[Act.put,zc,ze,zh];refine .c (v:= .bool false) rfl rfl (fun V c=>by go_simp<;>with_reducible rfl) ?_;try simp only[Act.put,zc,ze,zh];refine .c (v:= .pointer (some ⟨A,3,none⟩)) rfl rfl (fun V c=>by go_simp<;>with_reducible rfl) ?_;try simp only[Act.put,zc,ze,zh];refine .c (v:= .func (.func 142) #[.pointer (some ⟨g,0,none⟩)] #[]) rfl rfl (fun V c=>by go_simp<;>with_reducible rfl) ?_;try simp only[Act.put,zc,ze,zh];refine .nil ?_;refine GT.fw 16 (fun K z=> ?_) rfl (by kernel_rfl);go_simp;refine(RX.out C.drew O.out.drew).mono ?_;rintro e w2 ⟨rfl,nq,rfl⟩;go_wp2_with fail
 refine z.out _ _ ⟨H,G,F,B,E,D,J⟩ (fun hHeld=> ?_);clear z K;try simp only[Act.put,zc,ze,zh]
 refine GT.jy [17,18] hHeld (fun _ _ _ _ _ h=>h) (by kernel_rfl) ?_;refine .c (v:= .bool false) rfl rfl (fun V c=>by go_simp<;>with_reducible rfl) ?_;try simp only[Act.put,zc,ze,zh];refine .c (v:= .bool false) rfl rfl (fun V c=>by go_simp<;>with_reducible rfl) ?_;try simp only[Act.put,zc,ze,zh];refine .nil ?_;obtain⟨n0,n1,n2,n3,m0,m1,m2,m3⟩:=aO L.out;refine GT.fw 19 (fun K z=> ?_) rfl (by kernel_rfl);go_simp;refine z.out _ _ ⟨(cE (by simp;omega) _ _ _ _ _).trans H,(cE (by simp;omega) _ _ _ _ _).trans G,(cE (by simp;omega) _ _ _ _ _).trans F,(cE (by simp;omega) _ _ _ _ _).trans B,(cE (by simp;omega) _ _ _ _ _).trans E,(cE (by simp;omega) _ _ _ _ _).trans D,(cE (by simp;omega) _ _ _ _ _).trans J⟩ (fun hHeld=> ?_);clear z K;try simp only[Act.put,zc,ze,zh]
 refine GT.oL 20 ?_ rfl (by kernel_rfl);go_simp;go_wp2;have S:=(L.out.drewN (1+nq)).set 0 (.int .i64 l);have W:=S.set 1 (.int .i64 q);have N:=W.set 2 (.slice x r u);have aa:=N.set 3 (.int .i64 y);have U:=S.cell 0;have M:=W.cell 1;have Y:=N.cell 2;have R:=aa.cell 3;simp at U M Y R;have X:Below w.heap.size w (((((C.drewN (1+nq)).setCell ⟨w.heap.size,0,none⟩ (.int .i64 l)).setCell ⟨w.heap.size,1,none⟩ (.int .i64 q)).setCell ⟨w.heap.size,2,none⟩ (.slice x r u)).setCell ⟨w.heap.size,3,none⟩ (.int .i64 y)):=(((((O.out.bB _).setCell (by simp) _).setCell (by simp) _).setCell (by simp) _).setCell (by simp) _)
 refine zo (v:= .tuple #[.agg #[.int .i64 l,.int .i64 q,.slice x r u,.int .i64 y],.bool false]) (by simp[results,results189,go_sem,U,M,Y,R]) rfl ⟨rfl,X⟩
theorem Py (f d:Nat)(hd:d<=8)(IH:Hid (∀(g:Nat) (s:ByteArray) (p L:Nat) (w:World),jg w g s p L->p<=s.size->s.size<=100000->L<=64->
 Calls prog 101 #[.pointer (some ⟨g,0,none⟩),.int .i64 ((d:Int)+1)] w fun e w'=>j5 w g s f L p e w')) (g:Nat) (s:ByteArray) (p L:Nat) (w:World) (h:jg w g s p L) (hp:p<s.size) (O:s.size<=100000) (hL:0<L) (Ng:L<=64) (hc:s[p].toNat=91):
 Calls prog 101 #[.pointer (some ⟨g,0,none⟩),.int .i64 d] w fun e w'=>j5 w g s (f+1) L p e w':=by
 have X:((s[p].toNat:Int)==117)=false:=zr.2 (by omega);have N:((s[p].toNat:Int)==98)=false:=zr.2 (by omega);have ed:IntKind.i64.wrap ((d:Int)+1)=(d:Int)+1:=yh _ (by omega);have Z:Hid (aK (f+1) (s.data.toList.drop p)=uA (aK f (s.data.toList.drop (p+1)))):=za (by rw[pV (c:=91) hp hc,JD]);have S:=za (sB.start h);generalize hW:((w.alloc (.cells #[.pointer (some ⟨g,0,none⟩)] 148)).alloc (.cells #[.int .i64 0,.int .i64 0,.slice none 0 0,.int .i64 0] 64))=W at*;obtain⟨g0,g1,g2,f0,f1,f2,lT⟩:=S.out.rd.cells;have b0:W.cell? ⟨w.heap.size,0,none⟩=some (.pointer (some ⟨g,0,none⟩)):=S.out.box.cell 0;have wJ:=S.out.glt;have d1:decide ((8:Int)<(d:Int))=false:=zz (by omega);have dL:((L:Int)==0)=false:=zr.2 (by omega);have dp:((p:Int)==(s.size:Int))=false:=zr.2 (by omega);have ew:IntKind.i64.wrap ((L:Int)-1)=(L:Int)-1:=yh _ (by omega);clear h;go_enter xT,xM
 go_wp2_with fail
 go_quiet (fail)
 obtain⟨nk,rfl⟩:∃nk,nk=nq:=⟨nq,rfl⟩
 go_wp2_with fail
 go_quiet (fail)
 have Di:=za (S.out.step ((L:Int)-1) ((p:Int)+1) nk nq (L':=L-1) (p':=p+1) (by omega) (by omega));have HI:=za (IH.out g s (p+1) (L-1) _ Di.out.rd (by omega) O (by omega));clear IH;go_wp2_with fail
 refine HI.out.mono ?_;rintro e I ⟨x,ok,q,l,k,z,M,A,n,cap,rfl,hr,ho,au,hn,ah⟩;have iC:=za (Di.out.dw ho hr);have AD:=za hn;have ao:=za ah;have WY:=iC.out.siz;have hq:=hn.2.2;clear hr ho hn ah HI;have U:=za (iC.out.below (V':=I.alloc (.cells #[.int .i64 k,.int .i64 z,.slice A n cap,.int .i64 M] 64)) bN);obtain⟨n0,n1,n2,n3,m0,m1,m2,m3⟩:=aO U.out.res;have b2:(I.alloc (.cells #[.int .i64 k,.int .i64 z,.slice A n cap,.int .i64 M] 64)).cell? ⟨w.heap.size,0,none⟩=some (.pointer (some ⟨g,0,none⟩)):=U.out.box.cell 0;have F':w.heap.size+1<I.heap.size:=by omega
 cases ok with
 |false=>
  obtain⟨k0,k1,k2,k3,l0,l1,l2,l3⟩:=aO iC.out.res;have av:¬I.heap.size=w.heap.size+1:=by omega
  go_wp2;obtain⟨E1,E2,B,o,D,r⟩:=iC.out.ends (.int .i64 0) (.int .i64 0) (.slice none 0 0) (.int .i64 0);refine zo (v:= .tuple #[.agg #[.int .i64 0,.int .i64 0,.slice none 0 0,.int .i64 0],.bool false]) (by simp[results,yD,go_sem,B,o,D,r,zE,F']) rfl ?_;exact⟨.mk 0 0 [] 0,false,q,l,_,_,_,_,_,_,rfl,af.alloc (show af _ g _ _ from E1) _,E2.alloc _,by omega,Ii hL Z.out AD.out hq,(by intro h;cases h)⟩
 |true=>
  go_wp2_with fail
  by_cases U9:∃hq:q<s.size,s[q].toNat=58
  ·obtain⟨AI,RZ⟩:=U9;refine(eQ g s q l 58 _ U.out.rd AI O RZ).mono ?_;rintro e w2 ⟨rfl,iB,cL⟩;have tR:=za (U.out.dw cL iB);have ai:=za (nH g w.heap.size s (q+1) l 1024 4 _ tR.out.rd tR.out.box (by omega) O (by omega));clear n0 n1 n2 n3 m0 m1 m2 m3 b2;go_wp2_with fail
   refine ai.out.mono ?_;rintro e w3 ⟨b,an,u,rfl,qH,ka,RR⟩;have AJ:=za (tR.out.dw ka qH);have J:=za RR;have HT:=za (((af.new I 64 #[.int .i64 k,.int .i64 z,.slice A n cap,.int .i64 M]).only cL (by simp;omega)).only ka (by simp;omega));have aw:I.heap.size<w3.heap.size:=HT.out.lt;obtain⟨t0,t1,t2,t3,_,_,_,_⟩:=aO HT.out;have al:=za (HT.out.alloc (.cells #[.int .i64 4,.int .i64 b,.slice none 0 0,.int .i64 0] 64));obtain⟨u0,u1,u2,u3,_,_,_,_⟩:=aO al.out;have ak:Hid (fh w3 (w.heap.size+2<= ·) x (.int .i64 k) (.int .i64 z) (.slice A n cap) (.int .i64 M)):=za ((ao.out (by first|rfl|trivial)).only ((((ae.refl [g] I).alloc _).trans cL).trans ka) (by simp[World.setCell]<;>(have:=S.out.siz;omega)) (fun k _ hk=>by simp[World.setCell]at hk;have:=S.out.siz;omega));obtain⟨i,R⟩:∃i,((w3.alloc (.cells #[.int .i64 4,.int .i64 b,.slice (some ⟨w3.heap.size+1,0,none⟩) 1 1,.int .i64 0] 64)).alloc (.cells #[.int .i64 k,.int .i64 z,.slice A n cap,.int .i64 M] 64))=i:=⟨_,rfl⟩
   have KP:Hid (af i w3.heap.size 64 #[.int .i64 4,.int .i64 b,.slice (some ⟨w3.heap.size+1,0,none⟩) 1 1,.int .i64 0]):=za (by rw[<-R];exact(af.new w3 _ _).alloc _);have Jf:Hid (af i (w3.heap.size+1) 64 #[.int .i64 k,.int .i64 z,.slice A n cap,.int .i64 M]):=za (by rw[<-R];exact af.at_ (by simp));have G:Hid (sB w g s u l i):=za (by rw[<-R];exact AJ.out.below bN);have aq:Hid (b<=1024->fh i (w.heap.size+2<= ·) (.mk 4 b [x] 0) (.int .i64 4) (.int .i64 b) (.slice (some ⟨w3.heap.size+1,0,none⟩) 1 1) (.int .i64 0)):=za (by
    intro RW;obtain⟨x0,x1,x2,x3,_⟩:=aO Jf.out;refine⟨rfl,rfl,rfl,ay (by omega) (by omega),ay (by omega) (by omega),ay (by omega) (by omega),by simp,_,_,rfl,by simp,by simp,⟨_,_,_,_,_,_,rfl, ?_,x0,x1,x2,x3, ?_⟩,trivial⟩
    ·show w.heap.size+2<=w3.heap.size+1
     omega
    exact ak.out.below (by rw[<-R];exact bN))
   have Y:Hid (∀V,af V w3.heap.size 64 #[.int .i64 4,.int .i64 b,.slice (some ⟨w3.heap.size+1,0,none⟩) 1 1,.int .i64 0]->af V w.heap.size 148 #[.pointer (some ⟨g,0,none⟩)]->V.cell? ⟨w3.heap.size,0,none⟩=some (.int .i64 4)/\V.cell? ⟨w3.heap.size,1,none⟩=some (.int .i64 b)/\V.cell? ⟨w3.heap.size,2,none⟩=some (.slice (some ⟨w3.heap.size+1,0,none⟩) 1 1)/\V.cell? ⟨w3.heap.size,3,none⟩=some (.int .i64 0)/\V.cell? ⟨w.heap.size,0,none⟩=some (.pointer (some ⟨g,0,none⟩))):=za (fun V C F=>by
    obtain⟨a0,a1,a2,a3,_⟩:=aO C;exact⟨a0,a1,a2,a3,F.cell 0⟩)
   have ar:=za R;clear RR qH ka iB cL ai R;go_wp2_with fail
   rw[ar.out];clear t0 t1 t2 t3 u0 u1 u2 u3;have hHeld:=Y.out i.drew KP.out.drew G.out.box.drew;cases an with
   |false=>
    refine aA 7 (fun V=>V.cell? ⟨w3.heap.size,0,none⟩=some (.int .i64 4)/\V.cell? ⟨w3.heap.size,1,none⟩=some (.int .i64 b)/\V.cell? ⟨w3.heap.size,2,none⟩=some (.slice (some ⟨w3.heap.size+1,0,none⟩) 1 1)/\V.cell? ⟨w3.heap.size,3,none⟩=some (.int .i64 0)/\V.cell? ⟨w.heap.size,0,none⟩=some (.pointer (some ⟨g,0,none⟩))) (by kernel_rfl) (by kernel_rfl) ?_;refine GT.jy [0,1,2,3,4,5] hHeld (fun _ _ _ _ _ h=>h) (by kernel_rfl) ?_;iterate 3 (refine .c rfl rfl (fun V hV=>by go_simp<;>with_reducible rfl) ?_;simp only[Act.put,zc,ze,zh])
    refine .u rfl rfl ?_;try simp only[Act.put,zc,ze,zh];refine .u rfl rfl ?_;try simp only[Act.put,zc,ze,zh];refine .c rfl rfl (fun V hV=>by go_simp<;>with_reducible rfl) ?_;simp only[Act.put,zc,ze,zh];refine .nil ?_;obtain⟨n0,n1,n2,n3,m0,m1,m2,m3⟩:=aO G.out.res;refine GT.fw 6 (fun K j=> ?_) rfl (by kernel_rfl);go_simp;have H:ae [w.heap.size+1] i ((((i.setCell ⟨w.heap.size+1,0,none⟩ (.int .i64 4)).setCell ⟨w.heap.size+1,1,none⟩ (.int .i64 b)).setCell ⟨w.heap.size+1,2,none⟩ (.slice (some ⟨w3.heap.size+1,0,none⟩) 1 1)).setCell ⟨w.heap.size+1,3,none⟩ (.int .i64 0)):=((((ae.refl _ _).setCell (by simp) _).setCell (by simp) _).setCell (by simp) _).setCell (by simp) _;refine j.out _ _ (Y.out _ (KP.out.only H (by simp;omega)).drew (G.out.box.only H (by simp)).drew) (fun hHeld=> ?_);clear j K;try simp only[Act.put,zc,ze,zh]
    refine GT.oL 7 ?_ rfl (by kernel_rfl);go_simp;obtain⟨X,N,B,o,D,r⟩:=G.out.ends (.int .i64 4) (.int .i64 b) (.slice (some ⟨w3.heap.size+1,0,none⟩) 1 1) (.int .i64 0);go_wp2;refine zo (v:= .tuple #[.agg #[.int .i64 4,.int .i64 b,.slice (some ⟨w3.heap.size+1,0,none⟩) 1 1,.int .i64 0],.bool false]) (by simp[results,yD,go_sem,B,o,D,r]) rfl ?_;exact⟨.mk 0 0 [] 0,false,u,l,_,_,_,_,_,_,rfl,af.drew (show af _ g _ _ from X),N.drew,by omega,oO Z.out AD.out (Pq x AI RZ J.out L) J.out.2.2.1,(by intro h;cases h)⟩
   |true=>
    by_cases ql:∃QN:u<s.size,s[u].toNat=93
    ·obtain⟨QN,U8⟩:=ql;have ad:=za (eQ g s u l 93 _ (af.drew (show af i g _ _ from G.out.rd)) QN O U8);refine aA 7 (fun V=>V.cell? ⟨w3.heap.size,0,none⟩=some (.int .i64 4)/\V.cell? ⟨w3.heap.size,1,none⟩=some (.int .i64 b)/\V.cell? ⟨w3.heap.size,2,none⟩=some (.slice (some ⟨w3.heap.size+1,0,none⟩) 1 1)/\V.cell? ⟨w3.heap.size,3,none⟩=some (.int .i64 0)/\V.cell? ⟨w.heap.size,0,none⟩=some (.pointer (some ⟨g,0,none⟩))) (by kernel_rfl) (by kernel_rfl) ?_;refine GT.jy [0,1,2,3] hHeld (fun _ _ _ _ _ h=>h) (by kernel_rfl) ?_;repeat(refine .c rfl rfl (fun V hV=>by go_simp<;>with_reducible rfl) ?_;simp only[Act.put,zc,ze,zh])
     refine .nil ?_;refine GT.fw 4 (fun K j=> ?_) rfl (by kernel_rfl);go_simp;refine ad.out.mono ?_;rintro e m ⟨rfl,aa,aj⟩;have y:ae [g] i m:=(ae.refl [g] i).drew.trans aj;clear aj;have E:=za (G.out.dw y aa);have ag:=za y;have KQ:=za (KP.out.only y (by simp;omega));clear hHeld aa y;go_wp2_with fail
     refine j.out _ _ (Y.out m KQ.out E.out.box) (fun hHeld=> ?_);clear j K;try simp only[Act.put,zc,ze,zh]
     refine GT.jy [5] hHeld (fun _ _ _ _ _ h=>h) (by kernel_rfl) ?_;refine .c rfl rfl (fun V hV=>by go_simp<;>with_reducible rfl) ?_;simp only[Act.put,zc,ze,zh];refine .nil ?_;obtain⟨n0,n1,n2,n3,m0,m1,m2,m3⟩:=aO E.out.res;refine GT.fw 6 (fun K j=> ?_) rfl (by kernel_rfl);go_simp;have H:ae [w.heap.size+1] m ((((m.setCell ⟨w.heap.size+1,0,none⟩ (.int .i64 4)).setCell ⟨w.heap.size+1,1,none⟩ (.int .i64 b)).setCell ⟨w.heap.size+1,2,none⟩ (.slice (some ⟨w3.heap.size+1,0,none⟩) 1 1)).setCell ⟨w.heap.size+1,3,none⟩ (.int .i64 0)):=((((ae.refl _ _).setCell (by simp) _).setCell (by simp) _).setCell (by simp) _).setCell (by simp) _;refine j.out _ _ (Y.out _ (KQ.out.only H (by simp;omega)) (E.out.box.only H (by simp))) (fun hHeld=> ?_);clear j K;try simp only[Act.put,zc,ze,zh]
     refine GT.oL 7 ?_ rfl (by kernel_rfl);go_simp;obtain⟨X,N,B,o,D,r⟩:=E.out.ends (.int .i64 4) (.int .i64 b) (.slice (some ⟨w3.heap.size+1,0,none⟩) 1 1) (.int .i64 0);go_wp2;refine zo (v:= .tuple #[.agg #[.int .i64 4,.int .i64 b,.slice (some ⟨w3.heap.size+1,0,none⟩) 1 1,.int .i64 0],.bool true]) (by simp[results,yD,go_sem,B,o,D,r]) rfl ?_;exact⟨.mk 4 b [x] 0,true,u+1,l,_,_,_,_,_,_,rfl,X,N,by omega,Ij hL Z.out AD.out (Pr x AI RZ J.out QN U8) (by have:=(J.out.1 rfl).2.2;omega) (by omega),fun _=>((aq.out J.out.2.2.2).only ag.out (by simp;omega) (fun _ _ h=>h)).only (L:= [w.heap.size+1]) (((((ae.refl _ m).setCell (by simp) _).setCell (by simp) _).setCell (by simp) _).setCell (by simp) _) (by simp) (fun _ _ h=>by omega)⟩
    have ad:=za (fZ g s u l 93 _ (af.drew (show af i g _ _ from G.out.rd)) J.out.2.2.1 O (fun C F=>ql ⟨C,F⟩));refine aA 7 (fun V=>V.cell? ⟨w3.heap.size,0,none⟩=some (.int .i64 4)/\V.cell? ⟨w3.heap.size,1,none⟩=some (.int .i64 b)/\V.cell? ⟨w3.heap.size,2,none⟩=some (.slice (some ⟨w3.heap.size+1,0,none⟩) 1 1)/\V.cell? ⟨w3.heap.size,3,none⟩=some (.int .i64 0)/\V.cell? ⟨w.heap.size,0,none⟩=some (.pointer (some ⟨g,0,none⟩))) (by kernel_rfl) (by kernel_rfl) ?_;refine GT.jy [0,1,2,3] hHeld (fun _ _ _ _ _ h=>h) (by kernel_rfl) ?_;repeat(refine .c rfl rfl (fun V hV=>by go_simp<;>with_reducible rfl) ?_;simp only[Act.put,zc,ze,zh])
    refine .nil ?_;refine GT.fw 4 (fun K j=> ?_) rfl (by kernel_rfl);go_simp;refine ad.out.mono ?_;rintro e m ⟨rfl,n6,ab⟩;have aa:jg m g s u l:=by rw[ab];exact G.out.rd
    have y:ae [g] i m:=by rw[ab];exact(ae.refl [g] i).drew.drewN _
    clear ab;have E:=za (G.out.dw y aa);have ag:=za y;have KQ:=za (KP.out.only y (by simp;omega));clear hHeld aa y;go_wp2_with fail
    refine j.out _ _ (Y.out m KQ.out E.out.box) (fun hHeld=> ?_);clear j K;try simp only[Act.put,zc,ze,zh]
    refine GT.jy [5] hHeld (fun _ _ _ _ _ h=>h) (by kernel_rfl) ?_;refine .c rfl rfl (fun V hV=>by go_simp<;>with_reducible rfl) ?_;simp only[Act.put,zc,ze,zh];refine .nil ?_;obtain⟨n0,n1,n2,n3,m0,m1,m2,m3⟩:=aO E.out.res;refine GT.fw 6 (fun K j=> ?_) rfl (by kernel_rfl);go_simp;have H:ae [w.heap.size+1] m ((((m.setCell ⟨w.heap.size+1,0,none⟩ (.int .i64 4)).setCell ⟨w.heap.size+1,1,none⟩ (.int .i64 b)).setCell ⟨w.heap.size+1,2,none⟩ (.slice (some ⟨w3.heap.size+1,0,none⟩) 1 1)).setCell ⟨w.heap.size+1,3,none⟩ (.int .i64 0)):=((((ae.refl _ _).setCell (by simp) _).setCell (by simp) _).setCell (by simp) _).setCell (by simp) _;refine j.out _ _ (Y.out _ (KQ.out.only H (by simp;omega)) (E.out.box.only H (by simp))) (fun hHeld=> ?_);clear j K;try simp only[Act.put,zc,ze,zh]
    refine GT.oL 7 ?_ rfl (by kernel_rfl);go_simp;obtain⟨X,N,B,o,D,r⟩:=E.out.ends (.int .i64 4) (.int .i64 b) (.slice (some ⟨w3.heap.size+1,0,none⟩) 1 1) (.int .i64 0);go_wp2;refine zo (v:= .tuple #[.agg #[.int .i64 4,.int .i64 b,.slice (some ⟨w3.heap.size+1,0,none⟩) 1 1,.int .i64 0],.bool false]) (by simp[results,yD,go_sem,B,o,D,r]) rfl ?_;exact⟨.mk 0 0 [] 0,false,u,l,_,_,_,_,_,_,rfl,X,N,by omega,oO Z.out AD.out (Mi x AI RZ J.out (fun C F=>ql ⟨C,F⟩) L) J.out.2.2.1,(by intro h;cases h)⟩
  refine(fZ g s q l 58 _ U.out.rd hq O (fun C F=>U9 ⟨C,F⟩)).mono ?_;rintro e w2 ⟨rfl,n5,rfl⟩;go_wp2;obtain⟨E1,E2,B,o,D,r⟩:=(U.out.below (V':=(I.alloc (.cells #[.int .i64 k,.int .i64 z,.slice A n cap,.int .i64 M] 64)).drewN n5) bN).ends (.int .i64 0) (.int .i64 0) (.slice none 0 0) (.int .i64 0);refine zo (v:= .tuple #[.agg #[.int .i64 0,.int .i64 0,.slice none 0 0,.int .i64 0],.bool false]) (by simp[results,yD,go_sem,B,o,D,r]) rfl ?_;exact⟨.mk 0 0 [] 0,false,q,l,_,_,_,_,_,_,rfl,E1,E2,by omega,oO Z.out AD.out (Pp x (fun C F=>U9 ⟨C,F⟩) L) hq,(by intro h;cases h)⟩
def abe (w:World)(g:Nat)(s:ByteArray)(L:Nat)(R:Option (Ty×List UInt8))(e:Ending)(w':World):Prop:=
 ∃(t:Ty) (ok:Bool) (q L':Nat) (k z ta:Int) (A:Option Addr) (n cap:Nat),e= .returned (.tuple #[.agg #[.int .i64 k,.int .i64 z,.slice A n cap,.int .i64 ta],.bool ok])/\jg w' g s q L'/\ae [g] w w'/\L'<=L/\Ov (1+L) s R t ok q L'/\(ok=true->fh w' (w.heap.size<= ·) t (.int .i64 k) (.int .i64 z) (.slice A n cap) (.int .i64 ta))
structure oQ (w:World)(g:Nat)(s:ByteArray)(p L:Nat)(acc:List Ty)(tl:Nat)(v:Value)(V:World):Prop where
 res:af V w.heap.size 64 #[.int .i64 0,.int .i64 0,.slice none 0 0,.int .i64 0]
 bx:af V (w.heap.size+1) 64 #[.int .i64 5,.int .i64 0,v,.int .i64 tl]
 acc:eC V (w.heap.size+2) acc v
 rd:jg V g s p L
 only:ae [g] w V
 siz:w.heap.size+2<=V.heap.size
 glt:g<w.heap.size
theorem oQ.start {w:World}{g:Nat}{s:ByteArray}{p L:Nat}(h:jg w g s p L):oQ w g s p L [] 0 (.slice none 0 0) ((w.alloc (.cells #[.int .i64 0,.int .i64 0,.slice none 0 0,.int .i64 0] 64)).alloc (.cells #[.int .i64 5,.int .i64 0,.slice none 0 0,.int .i64 0] 64)) where
 res:=(af.new w _ _).alloc _
 bx:=af.at_ (by simp)
 acc:=eC.nil _ _
 rd:=(af.alloc (show af w g _ _ from h) _).alloc _
 only:=((ae.refl _ w).alloc _).alloc _
 siz:=by simp
 glt:=af.lt (show af w g _ _ from h)
theorem oQ.dw {w V V':World}{g:Nat}{s:ByteArray}{p p' L L' c:Nat}{acc:List Ty}{v:Value}(h:oQ w g s p L acc c v V)(b:ae [g] V V')(d:jg V' g s p' L'):oQ w g s p' L' acc c v V' where
 res:=h.res.only b (by have:=h.glt;simp;omega)
 bx:=h.bx.only b (by have:=h.glt;simp;omega)
 acc:=h.acc.only b (by have:=h.glt;simp;omega)
 rd:=d
 only:=h.only.trans b
 siz:=zK h.siz b.size
 glt:=h.glt
theorem oQ.below {w V V':World}{g:Nat}{s:ByteArray}{p L c:Nat}{acc:List Ty}{v:Value}(h:oQ w g s p L acc c v V)(b:Below V.heap.size V V'):oQ w g s p L acc c v V':=h.dw ((ae.ag b (zf _)).mono (by simp)) ((b.block _ (af.lt (show af V g _ _ from h.rd))).trans h.rd)
theorem oQ.mark {w V:World}{g:Nat}{s:ByteArray}{p L b:Nat}{acc:List Ty}{v:Value}(h:oQ w g s p L acc b v V){n:Int}(c:n=(b+1:Nat)):oQ w g s p L acc (b+1) v (V.setCell ⟨w.heap.size+1,3,none⟩ (.int .i64 n)) where
 res:=h.res.dE (by simp) _
 bx:=by subst c;exact h.bx.store rfl
 acc:=h.acc.only ((ae.refl [w.heap.size+1] V).setCell (by simp) _) (by simp)
 rd:=af.dE (show af V g _ _ from h.rd) (by have:=h.glt;simp;omega) _
 only:=h.only.setCell (by simp) _
 siz:=by simp[World.setCell];exact h.siz
 glt:=h.glt
theorem oQ.more {w V V':World}{g:Nat}{s:ByteArray}{p L i:Nat}{acc l:List Ty}{v d:Value}(h:oQ w g s p L acc i v V)(b:V.grownBy V' v.ownBlock)(m:eC V' (w.heap.size+2) l d):oQ w g s p L l i d (V'.setCell ⟨w.heap.size+1,2,none⟩ d):=
 have c:∀k,k<w.heap.size+2->v.ownBlock≠some k:=fun k j e=>by have:=(h.acc.ge k e).1;omega
 ⟨(h.res.grown b (c _ (by omega))).dE (by simp) _,
  (h.bx.grown b (c _ (by omega))).store rfl,
  m.only ((ae.refl [w.heap.size+1] V').setCell (by simp) _) (by simp),
  (af.grown (show af V g _ _ from h.rd) b (c _ (by have:=h.glt;omega))).dE (by have:=h.glt;simp;omega) _,
  (h.only.grown b (fun k j=> .inr (by have:=(h.acc.ge k j).1;omega))).setCell (by simp) _,
  (by simp[World.setCell];exact zK h.siz b.size),
  h.glt⟩
theorem oQ.ends {w V:World}{g:Nat}{s:ByteArray}{p L i:Nat}{acc:List Ty}{v:Value}(h:oQ w g s p L acc i v V)(b c d e:Value):
 jg ((((V.setCell ⟨w.heap.size,0,none⟩ b).setCell ⟨w.heap.size,1,none⟩ c).setCell ⟨w.heap.size,2,none⟩ d).setCell ⟨w.heap.size,3,none⟩ e) g s p L/\ae [g] w ((((V.setCell ⟨w.heap.size,0,none⟩ b).setCell ⟨w.heap.size,1,none⟩ c).setCell ⟨w.heap.size,2,none⟩ d).setCell ⟨w.heap.size,3,none⟩ e)/\
 (V.setCell ⟨w.heap.size,0,none⟩ b).cell? ⟨w.heap.size,0,none⟩=some b/\((V.setCell ⟨w.heap.size,0,none⟩ b).setCell ⟨w.heap.size,1,none⟩ c).cell? ⟨w.heap.size,1,none⟩=some c/\(((V.setCell ⟨w.heap.size,0,none⟩ b).setCell ⟨w.heap.size,1,none⟩ c).setCell ⟨w.heap.size,2,none⟩ d).cell? ⟨w.heap.size,2,none⟩=some d/\((((V.setCell ⟨w.heap.size,0,none⟩ b).setCell ⟨w.heap.size,1,none⟩ c).setCell ⟨w.heap.size,2,none⟩ d).setCell ⟨w.heap.size,3,none⟩ e).cell? ⟨w.heap.size,3,none⟩=some e:=
 have n1:g≠w.heap.size:=by have:=h.glt;omega
 ⟨(((af.dE (show af V g _ _ from h.rd) (p:=⟨w.heap.size,0,none⟩) n1 _).dE (p:=⟨w.heap.size,1,none⟩) n1 _).dE (p:=⟨w.heap.size,2,none⟩) n1 _).dE (p:=⟨w.heap.size,3,none⟩) n1 _,(((h.only.setCell (by simp) _).setCell (by simp) _).setCell (by simp) _).setCell (by simp) _,by have:=(h.res.set 0 b).cell 0;simpa using this,by have:=((h.res.set 0 b).set 1 c).cell 1;simpa using this,by have:=(((h.res.set 0 b).set 1 c).set 2 d).cell 2;simpa using this,by have:=((((h.res.set 0 b).set 1 c).set 2 d).set 3 e).cell 3;simpa using this⟩
theorem oQ.ty {w V:World}{g:Nat}{s:ByteArray}{p L b:Nat}{acc:List Ty}{v:Value}(h:oQ w g s p L acc b v V)(m:acc.length<=200000)(n:b<=200000)(c d e i:Value):fh ((((V.setCell ⟨w.heap.size,0,none⟩ c).setCell ⟨w.heap.size,1,none⟩ d).setCell ⟨w.heap.size,2,none⟩ e).setCell ⟨w.heap.size,3,none⟩ i) (w.heap.size<= ·) (.mk 5 0 acc b) (.int .i64 5) (.int .i64 0) v (.int .i64 b):=by
 have l:eC _ (w.heap.size+2) acc v:=h.acc.only (L:= [w.heap.size]) (w':=(((V.setCell ⟨w.heap.size,0,none⟩ c).setCell ⟨w.heap.size,1,none⟩ d).setCell ⟨w.heap.size,2,none⟩ e).setCell ⟨w.heap.size,3,none⟩ i) (((((ae.refl _ _).setCell (by simp) _).setCell (by simp) _).setCell (by simp) _).setCell (by simp) _) (by simp);refine fh.gh (l.ty (by omega) (ay (by omega) (by omega)) (ay (by omega) (by omega)) (ay (by omega) (by omega))) fun k _ j=> ?_
 have j:w.heap.size+2<=k:=j;show w.heap.size<=k
 omega
theorem Is (f d:Nat)(hd:d<=8)(IH:Hid (∀(g:Nat) (s:ByteArray) (p L:Nat) (w:World),jg w g s p L->p<=s.size->s.size<=100000->L<=64->
 Calls prog 101 #[.pointer (some ⟨g,0,none⟩),.int .i64 ((d:Int)+1)] w fun e w'=>j5 w g s f L p e w')) (g:Nat) (s:ByteArray) (p L:Nat) (ab:Option (Ty×List UInt8)) (w:World) (h:jg w g s p L) (hT:Hid (eD f s ab p [] 0)) (hp:p<=s.size) (Z:s.size<=100000) (Ng:L<=64):
 Calls prog 150 #[.pointer (some ⟨g,0,none⟩),.int .i64 d] w fun e w'=>abe w g s L ab e w':=by
 have ed:IntKind.i64.wrap ((d:Int)+1)=(d:Int)+1:=yh _ (by omega);have cJ:=za (oQ.start h);clear h;go_enter func150,ntmps150
 go_wp2_with fail
 by_cases U9:∃hq:p<s.size,s[p].toNat=125
 ·obtain⟨AI,F⟩:=U9;refine(eQ g s p L 125 _ cJ.out.rd AI Z F).mono ?_;rintro e w1 ⟨rfl,U',ao⟩;have iC:=za (cJ.out.dw ao U');clear U' ao;obtain⟨Y,M,O,J,N,X,U,W⟩:=aO iC.out.res;obtain⟨z,E,m,C,D,x,r,u⟩:=aO iC.out.bx;go_wp2;obtain⟨R,H,K,G,S,I⟩:=iC.out.ends (.int .i64 5) (.int .i64 0) (.slice none 0 0) (.int .i64 0);refine zo (v:= .tuple #[.agg #[.int .i64 5,.int .i64 0,(.slice none 0 0),.int .i64 0],.bool true]) (by simp[results,xJ,go_sem,K,G,S,I]) rfl ?_;exact⟨.mk 5 0 [] 0,true,p+1,L,_,_,_,_,_,_,rfl,R,H,zf _,Il (hT.out.ends AI F) (by simp[aZ]) (by omega),fun _=>iC.out.ty (by simp) (by omega) _ _ _ _⟩
 have Dn:=za (Ik hT.out (fun i j=>U9 ⟨i,j⟩));refine(fZ g s p L 125 _ cJ.out.rd hp Z (fun i j=>U9 ⟨i,j⟩)).mono ?_;rintro e w1 ⟨rfl,n1,oY⟩;have iC:Hid (oQ w g s p L [] 0 (.slice none 0 0) w1):=za (by rw[oY];exact cJ.out.below bN);clear oY U9;go_wp2_with fail
 go_loopw [7] (fun _ wr=>∃(q Lc:Nat) (acc:List Ty) (l:Nat) (vv:Value),q<=s.size/\Hid (qT f s ab q acc l)/\Hid (Lc+aZ acc=L)/\Lc<=L/\acc.length<=q/\l<=q/\Hid (oQ w g s q Lc acc l vv wr)) (fun _ wr=>s.size-O' (wr.cell? ⟨g,1,none⟩))
 case atStart=>exact⟨p,L,[],0,_,hp,Dn,za (by simp[aZ]),zf _,by simp,by omega,iC⟩
 case round=>
  clear cJ iC Dn;obtain⟨q,Lc,acc,l,vv,hq,Dn,wL,aD,B8,As,HW⟩:=hrel;obtain⟨c0,c1,c2,av,aA,az,ql⟩:=HW.out.rd.cells;obtain⟨A2,n2,cr,rfl,Gv,aF,aH⟩:=HW.out.acc.dk;obtain⟨Y,M,O,J,N,X,U,W⟩:=aO HW.out.res;obtain⟨z,E,m,C,D,x,r,u⟩:=aO HW.out.bx;clear c0 c2 av aA az;by_cases Dm:∃hq:q<s.size,s[q].toNat=63
  ·obtain⟨AI,Dm⟩:=Dm;have aG:IntKind.i64.wrap ((l:Int)+1)=(l:Int)+1:=yh _ (by omega);clear Y M O J N X U W z E m C D x r u;go_wp2_with fail
   refine(eQ g s q Lc 63 _ HW.out.rd AI Z Dm).mono ?_;rintro e w2 ⟨rfl,iB,cL⟩;have rI:=za (HW.out.dw cL iB);clear iB cL;obtain⟨Y,M,O,J,N,X,U,W⟩:=aO rI.out.res;obtain⟨z,E,m,C,D,x,r,u⟩:=aO rI.out.bx;obtain⟨W3,oq⟩:∃W3,w2.setCell ⟨w.heap.size+1,3,none⟩ (.int .i64 ((l:Int)+1))=W3:=⟨_,rfl⟩
   obtain⟨T,ah⟩:∃T,l+1=T:=⟨_,rfl⟩
   have tR:Hid (oQ w g s (q+1) Lc acc T (.slice A2 n2 cr) W3):=za (by rw[<-oq,<-ah];exact rI.out.mark (by omega));have qu:Hid (Oq f s ab (q+1) acc T):=za (by rw[<-ah];exact Dn.out.mark AI Dm);have aq:=za oq;have hQ:q+1<=s.size:=by omega
   have aE:T<=q+1:=by omega
   clear oq ah;go_wp2_with fail
   rw[aq.out];refine(IH.out g s ((q+1)) Lc W3 tR.out.rd hQ Z (by omega)).mono ?_;rintro e w4 ⟨y,ok,b,c,k,an,ta,A,n,cap,rfl,hr,ho,aB,hn,nK⟩;have AJ:=za (tR.out.dw ho hr);have AD:=za hn;have al:=za nK;have QN:=hn.2.2;have aw:=tR.out.siz;have ar:=AJ.out.siz;have XS:w.heap.size<w4.heap.size:=by omega
   have au:w.heap.size+1<w4.heap.size:=by omega
   clear hr ho hn nK Y M O J N X U W z E m C D x r u;obtain⟨Y,M,O,J,N,X,U,W⟩:=aO AJ.out.res;obtain⟨z,E,m,C,D,x,r,u⟩:=aO AJ.out.bx;cases ok with
   |false=>
    go_wp2;obtain⟨R,H,K,G,S,I⟩:=AJ.out.ends (.int .i64 0) (.int .i64 0) (.slice none 0 0) (.int .i64 0);refine zo (v:= .tuple #[.agg #[.int .i64 0,.int .i64 0,.slice none 0 0,.int .i64 0],.bool false]) (by simp[results,xJ,go_sem,K,G,S,I,zE,XS]) rfl ?_;exact⟨.mk 0 0 [] 0,false,b,c,_,_,_,_,_,_,rfl,af.alloc (show af _ g _ _ from R) _,H.alloc _,by omega,Ps _ qu.out AD.out wL.out,(by intro h;cases h)⟩
   |true=>
    have XT:=za (Kb qu.out hQ AD.out);obtain⟨_,wF,ax⟩:=AD.out.1 rfl;have KR:Hid (c+aZ (acc++ [y])=L):=za (by rw[sE];have:=wL.out;omega);have qI:Hid (∀o o',oQ w g s b c acc (T) (.slice A2 n2 cr) ((w4.alloc o).alloc o')):=za (fun o o'=>AJ.out.below bN);have HY:Hid (∀o o',fh ((w4.alloc o).alloc o') (fun k=>w.heap.size+2<=k/\(Value.slice A2 n2 cr).ownBlock≠some k) y (.int .i64 k) (.int .i64 an) (.slice A n cap) (.int .i64 ta)):=za (fun o o'=>((al.out (by first|rfl|trivial)).gh (fun k _ hk=>⟨by have hk:W3.heap.size<=k:=hk;omega,fun e=>by have:=(tR.out.acc.ge k e).2;have hk:W3.heap.size<=k:=hk;omega⟩)).below bN);have ai:acc.length<=1000000:=by omega
    clear wF;go_wp2_with (at_builtin;refine cn (by rfl) (.tmp 34) (.tmp 36) (by rfl) (w.heap.size+2) acc (by rfl) (qI.out _ _).acc y (HY.out _ _) _ (by rfl) (by simp) (by simp) (by simp) (by simp) ai (by simp only[zt];omega) ?_)
    intro g' n' aj w6 RU Gd fQ ay;have QO:=af.grown (qI.out _ _).bx fQ (fun e=>by have:=((qI.out (.cells #[] 0) (.cells #[] 0)).acc.ge _ e).1;omega);clear Y M O J N X U W z E m C D x r u;obtain⟨z,E,m,C,D,x,r,u⟩:=aO QO;obtain⟨W7,qK⟩:∃W7,w6.setCell ⟨w.heap.size+1,2,none⟩ (.slice (some ⟨g',0,none⟩) n' aj)=W7:=⟨_,rfl⟩
    have Gc:Hid (oQ w g s b c (acc++ [y]) (T) (.slice (some ⟨g',0,none⟩) n' aj) W7):=za (by rw[<-qK];exact(qI.out _ _).more fQ Gd);have ak:=za qK;clear qK QO fQ Gd;go_wp2_with fail
    rw[ak.out];clear z E m C D x r u;by_cases F:∃hq:b<s.size,s[b].toNat=125
    ·obtain⟨wm,F⟩:=F;refine(eQ g s b c 125 _ Gc.out.rd wm Z F).mono ?_;rintro e w8 ⟨rfl,ag,NO⟩;have B:=za (Gc.out.dw NO ag);clear ag NO;obtain⟨Y,M,O,J,N,X,U,W⟩:=aO B.out.res;obtain⟨z,E,m,C,D,x,r,u⟩:=aO B.out.bx;go_wp2;obtain⟨R,H,K,G,S,I⟩:=B.out.ends (.int .i64 5) (.int .i64 0) (.slice (some ⟨g',0,none⟩) n' aj) (.int .i64 ((T:Nat):Int));refine zo (v:= .tuple #[.agg #[.int .i64 5,.int .i64 0,(.slice (some ⟨g',0,none⟩) n' aj),.int .i64 ((T:Nat):Int)],.bool true]) (by simp[results,xJ,go_sem,K,G,S,I]) rfl ?_;exact⟨.mk 5 0 (acc++ [y]) ((T:Nat):Int),true,b+1,c,_,_,_,_,_,_,rfl,R,H,by omega,Il (XT.out.ends wm F) KR.out (by omega),fun _=>B.out.ty (by simp;omega) (by omega) _ _ _ _⟩
    refine(fZ g s b c 125 _ Gc.out.rd QN Z (fun i j=>F ⟨i,j⟩)).mono ?_;rintro e w8 ⟨rfl,n8,ae⟩;have B:Hid (oQ w g s b c (acc++ [y]) (T) (.slice (some ⟨g',0,none⟩) n' aj) w8):=za (by rw[ae];exact Gc.out.below bN);clear ae;go_wp2_with fail
    by_cases tj:∃hq:b<s.size,s[b].toNat=44
    ·obtain⟨wm,tj⟩:=tj;refine(eQ g s b c 44 _ B.out.rd wm Z tj).mono ?_;rintro e w9 ⟨rfl,aa,qJ⟩;have Nk:=za (B.out.dw qJ aa);have c9:=Nk.out.rd.cells.2.1;clear aa qJ;go_wp2;go_roundw
     case rel=>exact⟨b+1,c,acc++ [y],T,_,by omega,za (XT.out.more wm tj (by simp)),KR,by omega,by simp;omega,by omega,Nk⟩
     case measure=>
      rw[c1,c9];simp only[O'];omega
    refine(fZ g s b c 44 _ B.out.rd QN Z (fun i j=>tj ⟨i,j⟩)).mono ?_;rintro e w9 ⟨rfl,n9,ad⟩;have Nk:Hid (oQ w g s b c (acc++ [y]) (T) (.slice (some ⟨g',0,none⟩) n' aj) w9):=za (by rw[ad];exact B.out.below bN);clear ad;obtain⟨Y,M,O,J,N,X,U,W⟩:=aO Nk.out.res;obtain⟨z,E,m,C,D,x,r,u⟩:=aO Nk.out.bx;go_wp2;obtain⟨R,H,K,G,S,I⟩:=Nk.out.ends (.int .i64 0) (.int .i64 0) (.slice none 0 0) (.int .i64 0);refine zo (v:= .tuple #[.agg #[.int .i64 0,.int .i64 0,.slice none 0 0,.int .i64 0],.bool false]) (by simp[results,xJ,go_sem,K,G,S,I]) rfl ?_;exact⟨.mk 0 0 [] 0,false,b,c,_,_,_,_,_,_,rfl,R,H,by omega,CT _ (BL XT.out (by simp) (fun i j=>F ⟨i,j⟩) (fun i j=>tj ⟨i,j⟩)) QN,(by intro h;cases h)⟩
  go_wp2_with fail
  refine(fZ g s q Lc 63 _ HW.out.rd hq Z (fun i j=>Dm ⟨i,j⟩)).mono ?_;rintro e w2 ⟨rfl,aC,tL⟩;have tR:Hid (oQ w g s q Lc acc l (.slice A2 n2 cr) w2):=za (by rw[tL];exact HW.out.below bN);clear tL Y M O J N X U W z E m C D x r u;obtain⟨Y,M,O,J,N,X,U,W⟩:=aO tR.out.res;obtain⟨z,E,m,C,D,x,r,u⟩:=aO tR.out.bx;by_cases Nl:0<l
  ·skip
   go_wp2;obtain⟨R,H,K,G,S,I⟩:=tR.out.ends (.int .i64 0) (.int .i64 0) (.slice none 0 0) (.int .i64 0);refine zo (v:= .tuple #[.agg #[.int .i64 0,.int .i64 0,.slice none 0 0,.int .i64 0],.bool false]) (by simp[results,xJ,go_sem,K,G,S,I]) rfl ?_;exact⟨.mk 0 0 [] 0,false,q,Lc,_,_,_,_,_,_,rfl,R,H,by omega,CT _ (Dn.out.none_ (fun i j=>Dm ⟨i,j⟩) Nl) hq,(by intro h;cases h)⟩
  have qu:Hid (Oq f s ab q acc l):=za (by
   obtain rfl:l=0:=by omega
   exact Dn.out.plain (fun i j=>Dm ⟨i,j⟩))
  obtain⟨W3,rfl⟩:∃W3,W3=w2:=⟨w2,rfl⟩
  have hQ:=hq;go_wp2_with fail
  refine(IH.out g s (q) Lc W3 tR.out.rd hQ Z (by omega)).mono ?_;rintro e w4 ⟨y,ok,b,c,k,an,ta,A,n,cap,rfl,hr,ho,aB,hn,nK⟩;have AJ:=za (tR.out.dw ho hr);have AD:=za hn;have al:=za nK;have QN:=hn.2.2;have aw:=tR.out.siz;have ar:=AJ.out.siz;have XS:w.heap.size<w4.heap.size:=by omega
  have au:w.heap.size+1<w4.heap.size:=by omega
  clear hr ho hn nK Y M O J N X U W z E m C D x r u;obtain⟨Y,M,O,J,N,X,U,W⟩:=aO AJ.out.res;obtain⟨z,E,m,C,D,x,r,u⟩:=aO AJ.out.bx;cases ok with
  |false=>
   go_wp2;obtain⟨R,H,K,G,S,I⟩:=AJ.out.ends (.int .i64 0) (.int .i64 0) (.slice none 0 0) (.int .i64 0);refine zo (v:= .tuple #[.agg #[.int .i64 0,.int .i64 0,.slice none 0 0,.int .i64 0],.bool false]) (by simp[results,xJ,go_sem,K,G,S,I,zE,XS]) rfl ?_;exact⟨.mk 0 0 [] 0,false,b,c,_,_,_,_,_,_,rfl,af.alloc (show af _ g _ _ from R) _,H.alloc _,by omega,Ps _ qu.out AD.out wL.out,(by intro h;cases h)⟩
  |true=>
   have XT:=za (Kb qu.out hQ AD.out);obtain⟨_,wF,ax⟩:=AD.out.1 rfl;have KR:Hid (c+aZ (acc++ [y])=L):=za (by rw[sE];have:=wL.out;omega);have qI:Hid (∀o o',oQ w g s b c acc (l) (.slice A2 n2 cr) ((w4.alloc o).alloc o')):=za (fun o o'=>AJ.out.below bN);have HY:Hid (∀o o',fh ((w4.alloc o).alloc o') (fun k=>w.heap.size+2<=k/\(Value.slice A2 n2 cr).ownBlock≠some k) y (.int .i64 k) (.int .i64 an) (.slice A n cap) (.int .i64 ta)):=za (fun o o'=>((al.out (by first|rfl|trivial)).gh (fun k _ hk=>⟨by have hk:W3.heap.size<=k:=hk;omega,fun e=>by have:=(tR.out.acc.ge k e).2;have hk:W3.heap.size<=k:=hk;omega⟩)).below bN);have ai:acc.length<=1000000:=by omega
   clear wF;go_wp2_with (at_builtin;refine cn (by rfl) (.tmp 34) (.tmp 36) (by rfl) (w.heap.size+2) acc (by rfl) (qI.out _ _).acc y (HY.out _ _) _ (by rfl) (by simp) (by simp) (by simp) (by simp) ai (by simp only[zt];omega) ?_)
   intro g' n' aj w6 RU Gd fQ ay;have QO:=af.grown (qI.out _ _).bx fQ (fun e=>by have:=((qI.out (.cells #[] 0) (.cells #[] 0)).acc.ge _ e).1;omega);clear Y M O J N X U W z E m C D x r u;obtain⟨z,E,m,C,D,x,r,u⟩:=aO QO;obtain⟨W7,qK⟩:∃W7,w6.setCell ⟨w.heap.size+1,2,none⟩ (.slice (some ⟨g',0,none⟩) n' aj)=W7:=⟨_,rfl⟩
   have Gc:Hid (oQ w g s b c (acc++ [y]) (l) (.slice (some ⟨g',0,none⟩) n' aj) W7):=za (by rw[<-qK];exact(qI.out _ _).more fQ Gd);have ak:=za qK;clear qK QO fQ Gd;go_wp2_with fail
   rw[ak.out];clear z E m C D x r u;by_cases F:∃hq:b<s.size,s[b].toNat=125
   ·obtain⟨wm,F⟩:=F;refine(eQ g s b c 125 _ Gc.out.rd wm Z F).mono ?_;rintro e w8 ⟨rfl,ag,NO⟩;have B:=za (Gc.out.dw NO ag);clear ag NO;obtain⟨Y,M,O,J,N,X,U,W⟩:=aO B.out.res;obtain⟨z,E,m,C,D,x,r,u⟩:=aO B.out.bx;go_wp2;obtain⟨R,H,K,G,S,I⟩:=B.out.ends (.int .i64 5) (.int .i64 0) (.slice (some ⟨g',0,none⟩) n' aj) (.int .i64 ((l:Nat):Int));refine zo (v:= .tuple #[.agg #[.int .i64 5,.int .i64 0,(.slice (some ⟨g',0,none⟩) n' aj),.int .i64 ((l:Nat):Int)],.bool true]) (by simp[results,xJ,go_sem,K,G,S,I]) rfl ?_;exact⟨.mk 5 0 (acc++ [y]) ((l:Nat):Int),true,b+1,c,_,_,_,_,_,_,rfl,R,H,by omega,Il (XT.out.ends wm F) KR.out (by omega),fun _=>B.out.ty (by simp;omega) (by omega) _ _ _ _⟩
   refine(fZ g s b c 125 _ Gc.out.rd QN Z (fun i j=>F ⟨i,j⟩)).mono ?_;rintro e w8 ⟨rfl,n8,ae⟩;have B:Hid (oQ w g s b c (acc++ [y]) (l) (.slice (some ⟨g',0,none⟩) n' aj) w8):=za (by rw[ae];exact Gc.out.below bN);clear ae;go_wp2_with fail
   by_cases tj:∃hq:b<s.size,s[b].toNat=44
   ·obtain⟨wm,tj⟩:=tj;refine(eQ g s b c 44 _ B.out.rd wm Z tj).mono ?_;rintro e w9 ⟨rfl,aa,qJ⟩;have Nk:=za (B.out.dw qJ aa);have c9:=Nk.out.rd.cells.2.1;clear aa qJ;go_wp2;go_roundw
    case rel=>exact⟨b+1,c,acc++ [y],l,_,by omega,za (XT.out.more wm tj (by simp)),KR,by omega,by simp;omega,by omega,Nk⟩
    case measure=>
     rw[c1,c9];simp only[O'];omega
   refine(fZ g s b c 44 _ B.out.rd QN Z (fun i j=>tj ⟨i,j⟩)).mono ?_;rintro e w9 ⟨rfl,n9,ad⟩;have Nk:Hid (oQ w g s b c (acc++ [y]) (l) (.slice (some ⟨g',0,none⟩) n' aj) w9):=za (by rw[ad];exact B.out.below bN);clear ad;obtain⟨Y,M,O,J,N,X,U,W⟩:=aO Nk.out.res;obtain⟨z,E,m,C,D,x,r,u⟩:=aO Nk.out.bx;go_wp2;obtain⟨R,H,K,G,S,I⟩:=Nk.out.ends (.int .i64 0) (.int .i64 0) (.slice none 0 0) (.int .i64 0);refine zo (v:= .tuple #[.agg #[.int .i64 0,.int .i64 0,.slice none 0 0,.int .i64 0],.bool false]) (by simp[results,xJ,go_sem,K,G,S,I]) rfl ?_;exact⟨.mk 0 0 [] 0,false,b,c,_,_,_,_,_,_,rfl,R,H,by omega,CT _ (BL XT.out (by simp) (fun i j=>F ⟨i,j⟩) (fun i j=>tj ⟨i,j⟩)) QN,(by intro h;cases h)⟩
theorem Pz (f d:Nat)(hd:d<=8)(C:Hid (∀(g:Nat) (s:ByteArray) (p L:Nat) (w:World),jg w g s p L->p<=s.size->s.size<=100000->L<=64->
 Calls prog 101 #[.pointer (some ⟨g,0,none⟩),.int .i64 ((d:Int)+1)] w fun e w'=>j5 w g s f L p e w')) (g:Nat) (s:ByteArray) (p L:Nat) (w:World) (h:jg w g s p L) (G:p<s.size) (F:s.size<=100000) (hL:0<L) (Ng:L<=64) (S:s[p].toNat=123):
 Calls prog 101 #[.pointer (some ⟨g,0,none⟩),.int .i64 d] w fun e w'=>j5 w g s (f+1) L p e w':=by
 have y:=za (Pt (f:=f) G S);have b:=za (sB.start h);generalize hW:((w.alloc (.cells #[.pointer (some ⟨g,0,none⟩)] 148)).alloc (.cells #[.int .i64 0,.int .i64 0,.slice none 0 0,.int .i64 0] 64))=W at*;obtain⟨g0,g1,g2,f0,f1,f2,X⟩:=b.out.rd.cells;have b0:W.cell? ⟨w.heap.size,0,none⟩=some (.pointer (some ⟨g,0,none⟩)):=b.out.box.cell 0;have d1:decide ((8:Int)<(d:Int))=false:=zz (by omega);have dL:((L:Int)==0)=false:=zr.2 (by omega);have dp:((p:Int)==(s.size:Int))=false:=zr.2 (by omega);have ew:IntKind.i64.wrap ((L:Int)-1)=(L:Int)-1:=yh _ (by omega);clear h;go_enter xT,xM
 go_wp2_with fail
 go_quiet (fail)
 obtain⟨i,rfl⟩:∃i,i=nq:=⟨nq,rfl⟩
 go_wp2_with fail
 go_quiet (fail)
 have o:=za (b.out.step ((L:Int)-1) ((p:Int)+1) i nq (L':=L-1) (p':=p+1) (by omega) (by omega));have u:=za (Is f d hd C g s (p+1) (L-1) _ _ o.out.rd y (by omega) F (by omega));clear C y;go_wp2_with fail
 refine u.out.mono ?_;rintro e m ⟨t,ok,q,O,k,z,j,A,n,cap,rfl,x,r,Y,B,l⟩;have D:=za (o.out.dw r x);have U:=za B;have K:Hid (ok=true->fh m (w.heap.size+2<= ·) t (.int .i64 k) (.int .i64 z) (.slice A n cap) (.int .i64 j)):=za (fun h=>(l h).gh (fun k _ c=>by simp[World.setCell]at c;have:=b.out.siz;omega));clear x r B l u;obtain⟨n0,n1,n2,Z,m0,m1,m2,m3⟩:=aO D.out.res;go_wp2;obtain⟨N,I,R,E,H,M⟩:=D.out.ends (.int .i64 k) (.int .i64 z) (.slice A n cap) (.int .i64 j);refine zo (v:= .tuple #[.agg #[.int .i64 k,.int .i64 z,.slice A n cap,.int .i64 j],.bool ok]) (by simp[results,yD,go_sem,R,E,H,M]) rfl ?_;refine⟨t,ok,q,O,_,_,_,_,_,_,rfl,N,I,by omega, ?_,fun J=>(K.out J).only (L:= [w.heap.size+1]) (((((ae.refl _ m).setCell (by simp) _).setCell (by simp) _).setCell (by simp) _).setCell (by simp) _) (by simp) (fun k _ c=>by have c:w.heap.size+2<=k:=c;show w.heap.size<=k;omega)⟩;have:=abb U.out;rwa [show 1+(L-1)=L from by omega]at this
theorem Fs (t:Ty):0<t.count:=by
 cases t with
 |mk k s l ta=>simp only[Ty.count];omega
theorem PA (f d:Nat)(hd:d=9)(n:f=0)(g:Nat)(s:ByteArray)(p L:Nat)(w:World)(h:jg w g s p L)(j:p<=s.size)(A:s.size<=100000)(F:L<=64)(C:True):
 Calls prog 101 #[.pointer (some ⟨g,0,none⟩),.int .i64 d] w fun e w'=>j5 w g s f L p e w':=by
 have b:=za (sB.start h);generalize E:((w.alloc (.cells #[.pointer (some ⟨g,0,none⟩)] 148)).alloc (.cells #[.int .i64 0,.int .i64 0,.slice none 0 0,.int .i64 0] 64))=W at*;obtain⟨g0,g1,g2,f0,f1,f2,y⟩:=b.out.rd.cells;clear h;go_enter xT,xM
 go_wp2_with fail
 go_quiet (fail)
 obtain⟨c,rfl⟩:∃c,c=nq:=⟨nq,rfl⟩
 have u:Hid (sB w g s p L (W.drewN c)):=za (b.out.below bN);obtain⟨D,n1,n2,z,m0,m1,m2,m3⟩:=aO b.out.res;go_wp2;obtain⟨o,l,q,i,k,m⟩:=u.out.ends (.int .i64 0) (.int .i64 0) (.slice none 0 0) (.int .i64 0);refine zo (v:= .tuple #[.agg #[.int .i64 0,.int .i64 0,.slice none 0 0,.int .i64 0],.bool false]) (by simp[results,yD,go_sem,q,i,k,m]) rfl ?_;exact⟨.mk 0 0 [] 0,false,p,L,_,_,_,_,_,_,rfl,o,l,zf _,⟨(by intro h;cases h),(by intro _ B r x;subst n;cases x),j⟩,(by intro h;cases h)⟩
theorem PC (f d:Nat)(hd:d<=8)(g:Nat)(s:ByteArray)(p L:Nat)(w:World)(h:jg w g s p L)(j:p<=s.size)(z:s.size<=100000)(F:L<=64)(C:L=0):
 Calls prog 101 #[.pointer (some ⟨g,0,none⟩),.int .i64 d] w fun e w'=>j5 w g s f L p e w':=by
 have A:decide ((8:Int)<(d:Int))=false:=zz (by omega);have B:((L:Int)==0)=true:=xd.2 (by omega);have b:=za (sB.start h);generalize E:((w.alloc (.cells #[.pointer (some ⟨g,0,none⟩)] 148)).alloc (.cells #[.int .i64 0,.int .i64 0,.slice none 0 0,.int .i64 0] 64))=W at*;obtain⟨g0,g1,g2,f0,f1,f2,x⟩:=b.out.rd.cells;have H:W.cell? ⟨w.heap.size,0,none⟩=some (.pointer (some ⟨g,0,none⟩)):=b.out.box.cell 0;clear h;go_enter xT,xM
 go_wp2_with fail
 go_quiet (fail)
 obtain⟨c,rfl⟩:∃c,c=nq:=⟨nq,rfl⟩
 have u:Hid (sB w g s p L (W.drewN c)):=za (b.out.below bN);obtain⟨D,n1,n2,y,m0,m1,m2,m3⟩:=aO b.out.res;go_wp2;obtain⟨o,l,q,i,k,m⟩:=u.out.ends (.int .i64 0) (.int .i64 0) (.slice none 0 0) (.int .i64 0);refine zo (v:= .tuple #[.agg #[.int .i64 0,.int .i64 0,.slice none 0 0,.int .i64 0],.bool false]) (by simp[results,yD,go_sem,q,i,k,m]) rfl ?_;exact⟨.mk 0 0 [] 0,false,p,L,_,_,_,_,_,_,rfl,o,l,zf _,⟨(by intro h;cases h),(by intro _ n r G;right;have:=Fs n;omega),j⟩,(by intro h;cases h)⟩
theorem PD (f d:Nat)(hd:d<=8)(g:Nat)(s:ByteArray)(p L:Nat)(w:World)(h:jg w g s p L)(k:p<=s.size)(A:s.size<=100000)(I:L<=64)(F:0<L)(n:s.size<=p):
 Calls prog 101 #[.pointer (some ⟨g,0,none⟩),.int .i64 d] w fun e w'=>j5 w g s f L p e w':=by
 have B:decide ((8:Int)<(d:Int))=false:=zz (by omega);have D:((L:Int)==0)=false:=zr.2 (by omega);have E:((p:Int)==(s.size:Int))=true:=xd.2 (by omega);have b:=za (sB.start h);generalize H:((w.alloc (.cells #[.pointer (some ⟨g,0,none⟩)] 148)).alloc (.cells #[.int .i64 0,.int .i64 0,.slice none 0 0,.int .i64 0] 64))=W at*;obtain⟨g0,g1,g2,f0,f1,f2,y⟩:=b.out.rd.cells;have J:W.cell? ⟨w.heap.size,0,none⟩=some (.pointer (some ⟨g,0,none⟩)):=b.out.box.cell 0;clear h;go_enter xT,xM
 go_wp2_with fail
 go_quiet (fail)
 obtain⟨c,rfl⟩:∃c,c=nq:=⟨nq,rfl⟩
 have x:Hid (sB w g s p L (W.drewN c)):=za (b.out.below bN);obtain⟨G,n1,n2,z,m0,m1,m2,m3⟩:=aO b.out.res;go_wp2;obtain⟨q,m,u,j,l,o⟩:=x.out.ends (.int .i64 0) (.int .i64 0) (.slice none 0 0) (.int .i64 0);refine zo (v:= .tuple #[.agg #[.int .i64 0,.int .i64 0,.slice none 0 0,.int .i64 0],.bool false]) (by simp[results,yD,go_sem,u,j,l,o]) rfl ?_;exact⟨.mk 0 0 [] 0,false,p,L,_,_,_,_,_,_,rfl,q,m,zf _,⟨(by intro h;cases h),(by intro _ C r i;rw[BK f n]at i;cases i),k⟩,(by intro h;cases h)⟩
theorem Ft :∀(f d:Nat),f+d=9->∀(g:Nat) (s:ByteArray) (p L:Nat) (w:World),jg w g s p L->p<=s.size->s.size<=100000->L<=64->
 Calls prog 101 #[.pointer (some ⟨g,0,none⟩),.int .i64 d] w fun e w'=>j5 w g s f L p e w'
 |0,d,hfd,g,s,p,L,w,h,k,c,b=>PA 0 d (by omega) rfl g s p L w h k c b trivial
 |f+1,d,hfd,g,s,p,L,w,h,k,c,b=>by
  have m:Hid (∀(g:Nat) (s:ByteArray) (p L:Nat) (w:World),jg w g s p L->p<=s.size->s.size<=100000->L<=64->
   Calls prog 101 #[.pointer (some ⟨g,0,none⟩),.int .i64 ((d:Int)+1)] w fun e w'=>j5 w g s f L p e w'):=za (fun g s p L w h k c b=>by
   have:=Ft f (d+1) (by omega) g s p L w h k c b;rwa [show(((d+1:Nat)):Int)=(d:Int)+1 from by omega]at this)
  have hd:d<=8:=by omega
  by_cases x:L=0
  ·exact PC (f+1) d hd g s p L w h k c b x
  by_cases u:s.size<=p
  ·exact PD (f+1) d hd g s p L w h k c b (by omega) u
  have j:p<s.size:=by omega
  have i:0<L:=by omega
  by_cases o:s[p].toNat=117
  ·exact Pl f d hd g s p L w h j c i b o
  by_cases r:s[p].toNat=98
  ·exact Pj f d hd g s p L w h j c i b r
  by_cases q:s[p].toNat=115
  ·exact Pk f d hd g s p L w h j c i b q
  by_cases n:s[p].toNat=91
  ·exact Py f d hd m g s p L w h j c i b n
  by_cases l:s[p].toNat=123
  ·exact Pz f d hd m g s p L w h j c i b l
  exact Mf f d hd g s p L w h j c i b o r q n l
