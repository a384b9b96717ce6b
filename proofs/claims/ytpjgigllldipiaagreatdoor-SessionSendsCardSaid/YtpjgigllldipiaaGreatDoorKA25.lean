/- layout: what a value is read by: the state, the closures. -/
import Derived.Test.YtpjgigllldipiaaGreatDoorKA23
import Derived.Test.YtpjgigllldipiaaGreatDoorKA17
set_option linter.all false
set_option maxRecDepth 100000
set_option maxHeartbeats 3200000
namespace Go.Proofs.YtpjgigllldipiaaGreatDoor
open Go.RowKit
def zc:=@List.setIfInBounds_toArray
def zg:=@List.set_cons_succ
def xM:=@Tryz.results150
structure jn (w:World)(g gl fb:Nat)(s:ByteArray)(k:Nat)(f m:Int):Prop where
 rdr:iO w g s k f
 left:af w gl 3 #[.int .i64 m]
 box:af w fb 163 #[.pointer (some ⟨g,0,none⟩)]
theorem af.DL {w:World}{g c:Nat}{t d:TypeId}{e i:Array Value}(h:af w g t e)(b:af w c d i)(j:t≠d):g≠c:=by
 rintro rfl;unfold af at h b;rw[h]at b;injection b with b;injection b with _ ht;exact j ht
theorem jn.apart {w:World}{g gl b:Nat}{s:ByteArray}{k:Nat}{f m:Int}(h:jn w g gl b s k f m):gl≠g/\b≠g/\b≠gl:=⟨h.left.DL h.rdr (by decide),h.box.DL h.rdr (by decide),h.box.DL h.left (by decide)⟩
theorem jn.below {w w':World}{g gl c:Nat}{s:ByteArray}{k:Nat}{f m:Int}(h:jn w g gl c s k f m)(b:Below w.heap.size w w'):jn w' g gl c s k f m:=
 ⟨(b.block _ h.rdr.lt).trans h.rdr,(b.block _ h.left.lt).trans h.left,(b.block _ h.box.lt).trans h.box⟩
theorem jn.dC {w w':World}{g gl b:Nat}{s:ByteArray}{k d:Nat}{f c m:Int}(h:jn w g gl b s k f m)(e:ae [g] w w')(i:iO w' g s d c):jn w' g gl b s d c m:=
 ⟨i,h.left.only e (by simp[h.apart.1]),h.box.only e (by simp[h.apart.2.1])⟩
def hC (g gl fb:Nat):Value:= .agg #[.func (.func 120) #[.pointer (some ⟨g,0,none⟩)] #[],.func (.func 141) #[.pointer (some ⟨g,0,none⟩)] #[],.func (.func 121) #[.pointer (some ⟨g,0,none⟩)] #[],.func (.func 142) #[.pointer (some ⟨g,0,none⟩)] #[],.func (.func 143) #[] #[.pointer (some ⟨fb,0,none⟩)],.pointer (some ⟨gl,0,none⟩)]
theorem PO (N:Nat×Nat×Int)(z:Nat):qb N z<=z:=by
 rcases nJ N z 0 with⟨_,_,h,_⟩|⟨_,_,_,h,_⟩|⟨_,b,_,h,_⟩<;>omega
theorem BZ (g gl b:Nat)(s:ByteArray)(k z:Nat)(m:Int)(w:World)(h:jn w g gl b s k 0 m)(q:k<=s.size)(i:s.size<=9223372036854775807)(hz:z<=65536)(o:bn w)(r:g≠0):
 Calls Tryz.prog 143 #[.int .i64 z,.pointer (some ⟨b,0,none⟩)] w fun e w'=>e= .returned (.int .i64 (qb (aw (s.data.toList.drop k)) z))/\jn w' g gl b s (sH (aw (s.data.toList.drop k)) z k) (od (aw (s.data.toList.drop k)) z) m/\ae [g] w w':=by
 have x:w.cell? ⟨b,0,none⟩=some (.pointer (some ⟨g,0,none⟩)):=h.box.cell 0;have j:=za (Ps g s k z w h.rdr q i (by omega) o r);have u:=PO (aw (s.data.toList.drop k)) z;have n:=za h;generalize qb (aw (s.data.toList.drop k)) z=N at*;generalize sH (aw (s.data.toList.drop k)) z k=K at*;generalize od (aw (s.data.toList.drop k)) z=E at*;have y:IntKind.u64.wrap (z:Int)=z:=Zc _ (by omega);clear h;go_enter Tryz.func143,Tryz.ntmps143
 go_wp2_with fail
 refine j.out.mono ?_;rintro e A ⟨rfl,d,c⟩;have l:=za (n.out.dC c d);have p:=za c;clear d c;go_wp2;go_ret;exact⟨by go_num,l.out,p.out⟩
theorem WR (i:Int)(j b o n cap:Nat)(k z B:Int)(l c d m:Value)(w:World)(h:af w j 64 #[.int .i64 k,.int .i64 z,.slice (some ⟨b,o,none⟩) n cap,.int .i64 B])(K:0<n)(E:n<=9223372036854775807)
 (L:w.cell? ⟨b,o,none⟩=some l) (G:w.cell? ⟨b,o+1,none⟩=some c) (J:w.cell? ⟨b,o+2,none⟩=some d) (I:w.cell? ⟨b,o+3,none⟩=some m) (H:b<w.heap.size)
 (q x s:Int) (u:Option Addr) (p r:Nat) (y:l= .int .i64 q) (C:c= .int .i64 x) (D:d= .slice u p r) (A:m= .int .i64 s):
 Calls Tryz.prog 188 #[.int .i64 i,.pointer (some ⟨j,0,none⟩)] w fun e w'=>e= .returned (.tuple #[.agg #[l,c,d,m],.bool true])/\Below w.heap.size w w':=by
 have F:w.cell? ⟨j,2,none⟩=some (.slice (some ⟨b,o,none⟩) n cap):=h.cell 2;have M:=h.lt;subst y C D A;clear h;go_enter Tryz.func188,Tryz.ntmps188
 go_wp2;refine zp (v:= .tuple #[.agg #[.int .i64 q,.int .i64 x,.slice u p r,.int .i64 s],.bool true]) (by simp[results,Tryz.results188,go_sem]) rfl ⟨rfl,bM⟩
theorem fu {w:World}{g:Nat}{t:TypeId}{a b c d e f:Value}(h:af w g t #[a,b,c,d,e,f]):w.cell? ⟨g,0,none⟩=some a/\w.cell? ⟨g,1,none⟩=some b/\w.cell? ⟨g,2,none⟩=some c/\w.cell? ⟨g,3,none⟩=some d/\w.cell? ⟨g,4,none⟩=some e/\w.cell? ⟨g,5,none⟩=some f:=⟨h.cell 0,h.cell 1,h.cell 2,h.cell 3,h.cell 4,h.cell 5⟩
def jS (g gl fb:Nat):Array Value:= #[.func (.func 120) #[.pointer (some ⟨g,0,none⟩)] #[],.func (.func 141) #[.pointer (some ⟨g,0,none⟩)] #[],.func (.func 121) #[.pointer (some ⟨g,0,none⟩)] #[],.func (.func 142) #[.pointer (some ⟨g,0,none⟩)] #[],.func (.func 143) #[] #[.pointer (some ⟨fb,0,none⟩)],.pointer (some ⟨gl,0,none⟩)]
theorem kY {w:World}{g:Nat}{p:Addr}(e:p.block≠g)(a b c d:Value):((((w.drew.setCell ⟨g,0,none⟩ a).setCell ⟨g,1,none⟩ b).setCell ⟨g,2,none⟩ c).setCell ⟨g,3,none⟩ d).cell? p=w.cell? p:=
 zK (by
  rw[zY _ _ _ _ e,zY _ _ _ _ e,zY _ _ _ _ e,zY _ _ _ _ e];rfl)
theorem cF {w:World}{g:Nat}{p:Addr}(e:p.block≠g)(m:Nat)(a b c d:Value):(((((w.drewN m).setCell ⟨g,0,none⟩ a).setCell ⟨g,1,none⟩ b).setCell ⟨g,2,none⟩ c).setCell ⟨g,3,none⟩ d).cell? p=w.cell? p:=
 zK (by
  rw[zY _ _ _ _ e,zY _ _ _ _ e,zY _ _ _ _ e,zY _ _ _ _ e];rfl)
theorem WS (i:Nat)(j A g gl fb b o n cap:Nat)(s:ByteArray)(I:Nat)(m:Int)(k ad d:Int)(f0 f1 f2 f3:Value)(w:World)(h:af w j 64 #[.int .i64 k,.int .i64 ad,.slice (some ⟨b,o,none⟩) n cap,.int .i64 d])(hr:af w A 197 (jS g gl fb))(fl:Int)(sZ:jn w g gl fb s I fl m)(ab:I<=s.size)(hs:s.size<=9223372036854775807)(hn:i<n)(Jn:n<=9223372036854775807)(nN:0<=d)(Jp:d<=n)
 (h0:w.cell? ⟨b,o+i*4,none⟩=some f0) (h1:w.cell? ⟨b,o+i*4+1,none⟩=some f1) (h2:w.cell? ⟨b,o+i*4+2,none⟩=some f2) (h3:w.cell? ⟨b,o+i*4+3,none⟩=some f3) (Z:b<w.heap.size)
 (l y u:Int) (x:Option Addr) (q r:Nat) (e0:f0= .int .i64 l) (e1:f1= .int .i64 y) (e2:f2= .slice x q r) (e3:f3= .int .i64 u):
 Calls Tryz.prog 189 #[.int .i64 i,.pointer (some ⟨j,0,none⟩),.pointer (some ⟨A,0,none⟩)] w fun e w'=>e= .returned (.tuple #[.agg #[f0,f1,f2,f3],.bool (decide ((i:Int)<(n:Int)-d)||decide (I<s.size))])/\Below w.heap.size w w':=by
 have c:Below w.heap.size w (w.alloc (.cells #[.int .i64 0,.int .i64 0,.slice none 0 0,.int .i64 0] 64)):=bM;have mh:=fun V (hb:Below w.heap.size w V)=>vj g s I fl V ((hb.block _ sZ.rdr.lt).trans sZ.rdr) ab hs
 have Sk:=za mh;have G:=(c.cell (p:=⟨j,2,none⟩) h.lt).trans (show w.cell? ⟨j,2,none⟩=some (.slice (some ⟨b,o,none⟩) n cap)from h.cell 2);have D:=(c.cell (p:=⟨j,3,none⟩) h.lt).trans (show w.cell? ⟨j,3,none⟩=some (.int .i64 d)from h.cell 3);have DR:=hr.lt;have ae:=h.lt;obtain⟨r0,r1,r2,r3,r4,r5⟩:=fu (show af w A 197 #[_,_,_,_,_,_]from hr);have J:=(c.cell (p:=⟨A,3,none⟩) DR).trans r3;have H:=(c.cell (p:=⟨b,_,none⟩) Z).trans h0;have B:=(c.cell (p:=⟨b,_,none⟩) Z).trans h1;have C:=(c.cell (p:=⟨b,_,none⟩) Z).trans h2;have E:=(c.cell (p:=⟨b,_,none⟩) Z).trans h3;subst e0 e1 e2 e3;have o5:=af.new w 64 #[.int .i64 0,.int .i64 0,.slice none 0 0,.int .i64 0];have L:=za o5;have U:=za c;generalize GM:w.alloc (.cells #[.int .i64 0,.int .i64 0,.slice none 0 0,.int .i64 0] 64)=F at*;clear h hr sZ r0 r1 r2 r3 r4 r5 h0 h1 h2 h3 c mh o5;by_cases aD:(i:Int)<(n:Int)-d
 ·have d1:decide ((i:Int)<(n:Int)-d)=true:=zH aD;rw[d1,Bool.true_or];go_enter Tryz.func189,Tryz.ntmps189
  go_wp2_with fail
  have ew:IntKind.i64.wrap ((n:Int)-d)=(n:Int)-d:=yg _ (by omega);refine aB 20 (fun V=>V.cell? ⟨j,2,none⟩=some (.slice (some ⟨b,o,none⟩) n cap)/\V.cell? ⟨j,3,none⟩=some (.int .i64 d)/\V.cell? ⟨b,o+i*4,none⟩=some (.int .i64 l)/\V.cell? ⟨b,o+i*4+1,none⟩=some (.int .i64 y)/\V.cell? ⟨b,o+i*4+2,none⟩=some (.slice x q r)/\V.cell? ⟨b,o+i*4+3,none⟩=some (.int .i64 u)) (by kernel_rfl) (by kernel_rfl) ?_;have hHeld:(fun V:World=>V.cell? ⟨j,2,none⟩=some (.slice (some ⟨b,o,none⟩) n cap)/\V.cell? ⟨j,3,none⟩=some (.int .i64 d)/\V.cell? ⟨b,o+i*4,none⟩=some (.int .i64 l)/\V.cell? ⟨b,o+i*4+1,none⟩=some (.int .i64 y)/\V.cell? ⟨b,o+i*4+2,none⟩=some (.slice x q r)/\V.cell? ⟨b,o+i*4+3,none⟩=some (.int .i64 u)) F.drew:=⟨G,D,H,B,C,E⟩
  refine GT.jD [0,1,2,3,4,5,6,7,8,9,10,11,12,13,14,15,16,17,18] hHeld (fun _ _ _ _ _ h=>h) (by kernel_rfl) ?_;iterate 11 (refine .c rfl rfl (fun V c=>by go_simp<;>with_reducible rfl) ?_;simp only[Act.put,zc,ze,zg])
  refine .c (v:= .int .i64 ((n:Int)-d)) rfl rfl (fun V c=>by go_simp<;>with_reducible rfl) ?_;try simp only[Act.put,zc,ze,zg];refine .c (v:= .bool true) rfl rfl (fun V c=>by go_simp<;>with_reducible rfl) ?_;try simp only[Act.put,zc,ze,zg];refine .c (v:= .bool true) rfl rfl (fun V c=>by go_simp<;>with_reducible rfl) ?_;try simp only[Act.put,zc,ze,zg];refine .u rfl rfl ?_;try simp only[Act.put,zc,ze,zg];refine .u rfl rfl ?_;try simp only[Act.put,zc,ze,zg];refine .u rfl rfl ?_;try simp only[Act.put,zc,ze,zg];refine .u rfl rfl ?_;try simp only[Act.put,zc,ze,zg];refine .c rfl rfl (fun V c=>by go_simp<;>with_reducible rfl) ?_;simp only[Act.put,zc,ze,zg];refine .nil ?_;obtain⟨n0,n1,n2,n3,m0,m1,m2,m3⟩:=aL L.out;refine GT.fF 19 (fun K z=> ?_) rfl (by kernel_rfl);go_simp;refine z.out _ _ ⟨(kY (by simp;omega) _ _ _ _).trans G,(kY (by simp;omega) _ _ _ _).trans D,(kY (by simp;omega) _ _ _ _).trans H,(kY (by simp;omega) _ _ _ _).trans B,(kY (by simp;omega) _ _ _ _).trans C,(kY (by simp;omega) _ _ _ _).trans E⟩ (fun hHeld=> ?_);clear z K;try simp only[Act.put,zc,ze,zg]
  refine GT.oP 20 ?_ rfl (by kernel_rfl);go_simp;go_wp2;have hX:=((((L.out.set 0 (.int .i64 l)).set 1 (.int .i64 y)).set 2 (.slice x q r)).set 3 (.int .i64 u)).drew;have Y:Below w.heap.size w ((((F.setCell ⟨w.heap.size,0,none⟩ (.int .i64 l)).setCell ⟨w.heap.size,1,none⟩ (.int .i64 y)).setCell ⟨w.heap.size,2,none⟩ (.slice x q r)).setCell ⟨w.heap.size,3,none⟩ (.int .i64 u)).drew:=((((U.out.setCell (by simp) _).setCell (by simp) _).setCell (by simp) _).setCell (by simp) _).drew;obtain⟨x0,x1,x2,x3,_⟩:=aL (show af _ _ _ #[.int .i64 l,.int .i64 y,.slice x q r,.int .i64 u]from hX);refine zp (v:= .tuple #[.agg #[.int .i64 l,.int .i64 y,.slice x q r,.int .i64 u],.bool true]) (by simp[results,Tryz.results189,go_sem,x0,x1,x2,x3]) rfl ⟨rfl,Y⟩
 have d1:decide ((i:Int)<(n:Int)-d)=false:=zz aD;rw[d1,Bool.false_or];have ew:IntKind.i64.wrap ((n:Int)-d)=(n:Int)-d:=yg _ (by omega);by_cases hk:I<s.size
 ·have d3:decide (I<s.size)=true:=zH hk;rw[d3];go_enter Tryz.func189,Tryz.ntmps189
  go_wp2_with fail
  refine aB 20 (fun V=>V.cell? ⟨j,2,none⟩=some (.slice (some ⟨b,o,none⟩) n cap)/\V.cell? ⟨j,3,none⟩=some (.int .i64 d)/\V.cell? ⟨b,o+i*4,none⟩=some (.int .i64 l)/\V.cell? ⟨b,o+i*4+1,none⟩=some (.int .i64 y)/\V.cell? ⟨b,o+i*4+2,none⟩=some (.slice x q r)/\V.cell? ⟨b,o+i*4+3,none⟩=some (.int .i64 u)/\V.cell? ⟨A,3,none⟩=some (.func (.func 142) #[.pointer (some ⟨g,0,none⟩)] #[])) (by kernel_rfl) (by kernel_rfl) ?_;have hHeld:(fun V:World=>V.cell? ⟨j,2,none⟩=some (.slice (some ⟨b,o,none⟩) n cap)/\V.cell? ⟨j,3,none⟩=some (.int .i64 d)/\V.cell? ⟨b,o+i*4,none⟩=some (.int .i64 l)/\V.cell? ⟨b,o+i*4+1,none⟩=some (.int .i64 y)/\V.cell? ⟨b,o+i*4+2,none⟩=some (.slice x q r)/\V.cell? ⟨b,o+i*4+3,none⟩=some (.int .i64 u)/\V.cell? ⟨A,3,none⟩=some (.func (.func 142) #[.pointer (some ⟨g,0,none⟩)] #[])) F.drew:=⟨G,D,H,B,C,E,J⟩
  refine GT.jD [0,1,2,3,4,5,6,7,8,9,10,11,12,13,14,15] hHeld (fun _ _ _ _ _ h=>h) (by kernel_rfl) ?_;iterate 11 (refine .c rfl rfl (fun V c=>by go_simp<;>with_reducible rfl) ?_;simp only[Act.put,zc,ze,zg])
  refine .c (v:= .int .i64 ((n:Int)-d)) rfl rfl (fun V c=>by go_simp<;>with_reducible rfl) ?_;try simp only[Act.put,zc,ze,zg];refine .c (v:= .bool false) rfl rfl (fun V c=>by go_simp<;>with_reducible rfl) ?_;try simp only[Act.put,zc,ze,zg];refine .c (v:= .bool false) rfl rfl (fun V c=>by go_simp<;>with_reducible rfl) ?_;try simp only[Act.put,zc,ze,zg];refine .c (v:= .pointer (some ⟨A,3,none⟩)) rfl rfl (fun V c=>by go_simp<;>with_reducible rfl) ?_;try simp only[Act.put,zc,ze,zg];refine .c (v:= .func (.func 142) #[.pointer (some ⟨g,0,none⟩)] #[]) rfl rfl (fun V c=>by go_simp<;>with_reducible rfl) ?_;try simp only[Act.put,zc,ze,zg];refine .nil ?_;refine GT.fF 16 (fun K z=> ?_) rfl (by kernel_rfl);go_simp;refine(Sk.out F.drew U.out.drew).mono ?_;rintro e w2 ⟨rfl,nq,rfl⟩;go_wp2_with fail
  refine z.out _ _ ⟨G,D,H,B,C,E,J⟩ (fun hHeld=> ?_);clear z K;try simp only[Act.put,zc,ze,zg]
  refine GT.jD [17,18] hHeld (fun _ _ _ _ _ h=>h) (by kernel_rfl) ?_;refine .c (v:= .bool true) rfl rfl (fun V c=>by go_simp<;>with_reducible rfl) ?_;try simp only[Act.put,zc,ze,zg];refine .c (v:= .bool true) rfl rfl (fun V c=>by go_simp<;>with_reducible rfl) ?_;try simp only[Act.put,zc,ze,zg];refine .nil ?_;obtain⟨n0,n1,n2,n3,m0,m1,m2,m3⟩:=aL L.out;refine GT.fF 19 (fun K z=> ?_) rfl (by kernel_rfl);go_simp;refine z.out _ _ ⟨(cF (by simp;omega) _ _ _ _ _).trans G,(cF (by simp;omega) _ _ _ _ _).trans D,(cF (by simp;omega) _ _ _ _ _).trans H,(cF (by simp;omega) _ _ _ _ _).trans B,(cF (by simp;omega) _ _ _ _ _).trans C,(cF (by simp;omega) _ _ _ _ _).trans E,(cF (by simp;omega) _ _ _ _ _).trans J⟩ (fun hHeld=> ?_);clear z K;try simp only[Act.put,zc,ze,zg]
  refine GT.oP 20 ?_ rfl (by kernel_rfl);go_simp;go_wp2;have W:=(L.out.drewN (1+nq)).set 0 (.int .i64 l);have O:=W.set 1 (.int .i64 y);have R:=O.set 2 (.slice x q r);have aa:=R.set 3 (.int .i64 u);have X:=W.cell 0;have S:=O.cell 1;have N:=R.cell 2;have M:=aa.cell 3;simp at X S N M;have Y:Below w.heap.size w (((((F.drewN (1+nq)).setCell ⟨w.heap.size,0,none⟩ (.int .i64 l)).setCell ⟨w.heap.size,1,none⟩ (.int .i64 y)).setCell ⟨w.heap.size,2,none⟩ (.slice x q r)).setCell ⟨w.heap.size,3,none⟩ (.int .i64 u)):=(((((U.out.bE _).setCell (by simp) _).setCell (by simp) _).setCell (by simp) _).setCell (by simp) _)
  refine zp (v:= .tuple #[.agg #[.int .i64 l,.int .i64 y,.slice x q r,.int .i64 u],.bool true]) (by simp[results,Tryz.results189,go_sem,X,S,N,M]) rfl ⟨rfl,Y⟩
 have d3:decide (I<s.size)=false:=zz hk;rw[d3];go_enter Tryz.func189,Tryz.ntmps189
 go_wp2_with fail
 refine aB 20 (fun V=>V.cell? ⟨j,2,none⟩=some (.slice (some ⟨b,o,none⟩) n cap)/\V.cell? ⟨j,3,none⟩=some (.int .i64 d)/\V.cell? ⟨b,o+i*4,none⟩=some (.int .i64 l)/\V.cell? ⟨b,o+i*4+1,none⟩=some (.int .i64 y)/\V.cell? ⟨b,o+i*4+2,none⟩=some (.slice x q r)/\V.cell? ⟨b,o+i*4+3,none⟩=some (.int .i64 u)/\V.cell? ⟨A,3,none⟩=some (.func (.func 142) #[.pointer (some ⟨g,0,none⟩)] #[])) (by kernel_rfl) (by kernel_rfl) ?_;have hHeld:(fun V:World=>V.cell? ⟨j,2,none⟩=some (.slice (some ⟨b,o,none⟩) n cap)/\V.cell? ⟨j,3,none⟩=some (.int .i64 d)/\V.cell? ⟨b,o+i*4,none⟩=some (.int .i64 l)/\V.cell? ⟨b,o+i*4+1,none⟩=some (.int .i64 y)/\V.cell? ⟨b,o+i*4+2,none⟩=some (.slice x q r)/\V.cell? ⟨b,o+i*4+3,none⟩=some (.int .i64 u)/\V.cell? ⟨A,3,none⟩=some (.func (.func 142) #[.pointer (some ⟨g,0,none⟩)] #[])) F.drew:=⟨G,D,H,B,C,E,J⟩
 refine GT.jD [0,1,2,3,4,5,6,7,8,9,10,11,12,13,14,15] hHeld (fun _ _ _ _ _ h=>h) (by kernel_rfl) ?_;iterate 11 (refine .c rfl rfl (fun V c=>by go_simp<;>with_reducible rfl) ?_;simp only[Act.put,zc,ze,zg])
 refine .c (v:= .int .i64 ((n:Int)-d)) rfl rfl (fun V c=>by go_simp<;>with_reducible rfl) ?_;try simp only[Act.put,zc,ze,zg];refine .c (v:= .bool false) rfl rfl (fun V c=>by go_simp<;>with_reducible rfl) ?_;try simp only[Act.put,zc,ze,zg];refine .c (v:= .bool false) rfl rfl (fun V c=>by go_simp<;>with_reducible rfl) ?_;try simp only[Act.put,zc,ze,zg];refine .c (v:= .pointer (some ⟨A,3,none⟩)) rfl rfl (fun V c=>by go_simp<;>with_reducible rfl) ?_;try simp only[Act.put,zc,ze,zg];refine .c (v:= .func (.func 142) #[.pointer (some ⟨g,0,none⟩)] #[]) rfl rfl (fun V c=>by go_simp<;>with_reducible rfl) ?_;try simp only[Act.put,zc,ze,zg];refine .nil ?_;refine GT.fF 16 (fun K z=> ?_) rfl (by kernel_rfl);go_simp;refine(Sk.out F.drew U.out.drew).mono ?_;rintro e w2 ⟨rfl,nq,rfl⟩;go_wp2_with fail
 refine z.out _ _ ⟨G,D,H,B,C,E,J⟩ (fun hHeld=> ?_);clear z K;try simp only[Act.put,zc,ze,zg]
 refine GT.jD [17,18] hHeld (fun _ _ _ _ _ h=>h) (by kernel_rfl) ?_;refine .c (v:= .bool false) rfl rfl (fun V c=>by go_simp<;>with_reducible rfl) ?_;try simp only[Act.put,zc,ze,zg];refine .c (v:= .bool false) rfl rfl (fun V c=>by go_simp<;>with_reducible rfl) ?_;try simp only[Act.put,zc,ze,zg];refine .nil ?_;obtain⟨n0,n1,n2,n3,m0,m1,m2,m3⟩:=aL L.out;refine GT.fF 19 (fun K z=> ?_) rfl (by kernel_rfl);go_simp;refine z.out _ _ ⟨(cF (by simp;omega) _ _ _ _ _).trans G,(cF (by simp;omega) _ _ _ _ _).trans D,(cF (by simp;omega) _ _ _ _ _).trans H,(cF (by simp;omega) _ _ _ _ _).trans B,(cF (by simp;omega) _ _ _ _ _).trans C,(cF (by simp;omega) _ _ _ _ _).trans E,(cF (by simp;omega) _ _ _ _ _).trans J⟩ (fun hHeld=> ?_);clear z K;try simp only[Act.put,zc,ze,zg]
 refine GT.oP 20 ?_ rfl (by kernel_rfl);go_simp;go_wp2;have W:=(L.out.drewN (1+nq)).set 0 (.int .i64 l);have O:=W.set 1 (.int .i64 y);have R:=O.set 2 (.slice x q r);have aa:=R.set 3 (.int .i64 u);have X:=W.cell 0;have S:=O.cell 1;have N:=R.cell 2;have M:=aa.cell 3;simp at X S N M;have Y:Below w.heap.size w (((((F.drewN (1+nq)).setCell ⟨w.heap.size,0,none⟩ (.int .i64 l)).setCell ⟨w.heap.size,1,none⟩ (.int .i64 y)).setCell ⟨w.heap.size,2,none⟩ (.slice x q r)).setCell ⟨w.heap.size,3,none⟩ (.int .i64 u)):=(((((U.out.bE _).setCell (by simp) _).setCell (by simp) _).setCell (by simp) _).setCell (by simp) _)
 refine zp (v:= .tuple #[.agg #[.int .i64 l,.int .i64 y,.slice x q r,.int .i64 u],.bool false]) (by simp[results,Tryz.results189,go_sem,X,S,N,M]) rfl ⟨rfl,Y⟩
theorem PQ (f d:Nat)(hd:d<=8)(IH:Hid (∀(g:Nat) (s:ByteArray) (p L:Nat) (w:World),jm w g s p L->p<=s.size->s.size<=100000->L<=64->
 Calls Tryz.prog 101 #[.pointer (some ⟨g,0,none⟩),.int .i64 ((d:Int)+1)] w fun e w'=>kb w g s f L p e w')) (g:Nat) (s:ByteArray) (p L:Nat) (w:World) (h:jm w g s p L) (hp:p<s.size) (R:s.size<=100000) (hL:0<L) (NC:L<=64) (hc:s[p].toNat=91):
 Calls Tryz.prog 101 #[.pointer (some ⟨g,0,none⟩),.int .i64 d] w fun e w'=>kb w g s (f+1) L p e w':=by
 have N:((s[p].toNat:Int)==117)=false:=zr.2 (by omega);have U:((s[p].toNat:Int)==98)=false:=zr.2 (by omega);have ed:IntKind.i64.wrap ((d:Int)+1)=(d:Int)+1:=yg _ (by omega);have Gi:Hid (aK (f+1) (s.data.toList.drop p)=uK (aK f (s.data.toList.drop (p+1)))):=za (by rw[qd (c:=91) hp hc,J0]);have S:=za (sI.start h);generalize hW:((w.alloc (.cells #[.pointer (some ⟨g,0,none⟩)] 148)).alloc (.cells #[.int .i64 0,.int .i64 0,.slice none 0 0,.int .i64 0] 64))=W at*;obtain⟨g0,g1,g2,f0,f1,f2,o7⟩:=S.out.rd.cells;have b0:W.cell? ⟨w.heap.size,0,none⟩=some (.pointer (some ⟨g,0,none⟩)):=S.out.box.cell 0;have wV:=S.out.glt;have d1:decide ((8:Int)<(d:Int))=false:=zz (by omega);have dL:((L:Int)==0)=false:=zr.2 (by omega);have dp:((p:Int)==(s.size:Int))=false:=zr.2 (by omega);have ew:IntKind.i64.wrap ((L:Int)-1)=(L:Int)-1:=yg _ (by omega);clear h;go_enter xX,xQ
 go_wp2_with fail
 go_quiet (fail)
 obtain⟨nw,rfl⟩:∃nw,nw=nq:=⟨nq,rfl⟩
 go_wp2_with fail
 go_quiet (fail)
 have Dq:=za (S.out.step ((L:Int)-1) ((p:Int)+1) nw nq (L':=L-1) (p':=p+1) (by omega) (by omega));have HI:=za (IH.out g s (p+1) (L-1) _ Dq.out.rd (by omega) R (by omega));clear IH;go_wp2_with fail
 refine HI.out.mono ?_;rintro e H ⟨x,ok,q,l,k,z,M,A,n,cap,rfl,hr,ho,aw,hn,aj⟩;have iH:=za (Dq.out.dC ho hr);have AM:=za hn;have ao:=za aj;have Xx:=iH.out.siz;have hq:=hn.2.2;clear hr ho hn aj HI;have Y:=za (iH.out.below (V':=H.alloc (.cells #[.int .i64 k,.int .i64 z,.slice A n cap,.int .i64 M] 64)) bM);obtain⟨n0,n1,n2,n3,m0,m1,m2,m3⟩:=aL Y.out.res;have b2:(H.alloc (.cells #[.int .i64 k,.int .i64 z,.slice A n cap,.int .i64 M] 64)).cell? ⟨w.heap.size,0,none⟩=some (.pointer (some ⟨g,0,none⟩)):=Y.out.box.cell 0;have Gj:w.heap.size+1<H.heap.size:=by omega
 cases ok with
 |false=>
  obtain⟨k0,k1,k2,k3,l0,l1,l2,l3⟩:=aL iH.out.res;have au:¬H.heap.size=w.heap.size+1:=by omega
  go_wp2;obtain⟨E1,E2,G,B,y,u⟩:=iH.out.ends (.int .i64 0) (.int .i64 0) (.slice none 0 0) (.int .i64 0);refine zp (v:= .tuple #[.agg #[.int .i64 0,.int .i64 0,.slice none 0 0,.int .i64 0],.bool false]) (by simp[results,yC,go_sem,G,B,y,u,zE,Gj]) rfl ?_;exact⟨.mk 0 0 [] 0,false,q,l,_,_,_,_,_,_,rfl,af.alloc (show af _ g _ _ from E1) _,E2.alloc _,by omega,Iy hL Gi.out AM.out hq,(by intro h;cases h)⟩
 |true=>
  go_wp2_with fail
  by_cases Vv:∃hq:q<s.size,s[q].toNat=58
  ·obtain⟨AP,Sl⟩:=Vv;refine(eW g s q l 58 _ Y.out.rd AP R Sl).mono ?_;rintro e w2 ⟨rfl,iG,cO⟩;have tX:=za (Y.out.dC cO iG);have ag:=za (nL g w.heap.size s (q+1) l 1024 4 _ tX.out.rd tX.out.box (by omega) R (by omega));clear n0 n1 n2 n3 m0 m1 m2 m3 b2;go_wp2_with fail
   refine ag.out.mono ?_;rintro e w3 ⟨b,ar,F,rfl,qO,kg,T1⟩;have AQ:=za (tX.out.dC kg qO);have J:=za T1;have HT:=za (((af.new H 64 #[.int .i64 k,.int .i64 z,.slice A n cap,.int .i64 M]).only cO (by simp;omega)).only kg (by simp;omega));have av:H.heap.size<w3.heap.size:=HT.out.lt;obtain⟨t0,t1,t2,t3,_,_,_,_⟩:=aL HT.out;have an:=za (HT.out.alloc (.cells #[.int .i64 4,.int .i64 b,.slice none 0 0,.int .i64 0] 64));obtain⟨u0,u1,u2,u3,_,_,_,_⟩:=aL an.out;have ak:Hid (fy w3 (w.heap.size+2<= ·) x (.int .i64 k) (.int .i64 z) (.slice A n cap) (.int .i64 M)):=za ((ao.out (by first|rfl|trivial)).only ((((ae.refl [g] H).alloc _).trans cO).trans kg) (by simp[World.setCell]<;>(have:=S.out.siz;omega)) (fun k _ hk=>by simp[World.setCell]at hk;have:=S.out.siz;omega));obtain⟨i,X⟩:∃i,((w3.alloc (.cells #[.int .i64 4,.int .i64 b,.slice (some ⟨w3.heap.size+1,0,none⟩) 1 1,.int .i64 0] 64)).alloc (.cells #[.int .i64 k,.int .i64 z,.slice A n cap,.int .i64 M] 64))=i:=⟨_,rfl⟩
   have Q6:Hid (af i w3.heap.size 64 #[.int .i64 4,.int .i64 b,.slice (some ⟨w3.heap.size+1,0,none⟩) 1 1,.int .i64 0]):=za (by rw[<-X];exact(af.new w3 _ _).alloc _);have Jx:Hid (af i (w3.heap.size+1) 64 #[.int .i64 k,.int .i64 z,.slice A n cap,.int .i64 M]):=za (by rw[<-X];exact af.at_ (by simp));have C:Hid (sI w g s F l i):=za (by rw[<-X];exact AQ.out.below bM);have aq:Hid (b<=1024->fy i (w.heap.size+2<= ·) (.mk 4 b [x] 0) (.int .i64 4) (.int .i64 b) (.slice (some ⟨w3.heap.size+1,0,none⟩) 1 1) (.int .i64 0)):=za (by
    intro Sj;obtain⟨x0,x1,x2,x3,_⟩:=aL Jx.out;refine⟨rfl,rfl,rfl,aA (by omega) (by omega),aA (by omega) (by omega),aA (by omega) (by omega),by simp,_,_,rfl,by simp,by simp,⟨_,_,_,_,_,_,rfl, ?_,x0,x1,x2,x3, ?_⟩,trivial⟩
    ·show w.heap.size+2<=w3.heap.size+1
     omega
    exact ak.out.below (by rw[<-X];exact bM))
   have O:Hid (∀V,af V w3.heap.size 64 #[.int .i64 4,.int .i64 b,.slice (some ⟨w3.heap.size+1,0,none⟩) 1 1,.int .i64 0]->af V w.heap.size 148 #[.pointer (some ⟨g,0,none⟩)]->V.cell? ⟨w3.heap.size,0,none⟩=some (.int .i64 4)/\V.cell? ⟨w3.heap.size,1,none⟩=some (.int .i64 b)/\V.cell? ⟨w3.heap.size,2,none⟩=some (.slice (some ⟨w3.heap.size+1,0,none⟩) 1 1)/\V.cell? ⟨w3.heap.size,3,none⟩=some (.int .i64 0)/\V.cell? ⟨w.heap.size,0,none⟩=some (.pointer (some ⟨g,0,none⟩))):=za (fun V o D=>by
    obtain⟨a0,a1,a2,a3,_⟩:=aL o;exact⟨a0,a1,a2,a3,D.cell 0⟩)
   have al:=za X;clear T1 qO kg iG cO ag X;go_wp2_with fail
   rw[al.out];clear t0 t1 t2 t3 u0 u1 u2 u3;have hHeld:=O.out i.drew Q6.out.drew C.out.box.drew;cases ar with
   |false=>
    refine aB 7 (fun V=>V.cell? ⟨w3.heap.size,0,none⟩=some (.int .i64 4)/\V.cell? ⟨w3.heap.size,1,none⟩=some (.int .i64 b)/\V.cell? ⟨w3.heap.size,2,none⟩=some (.slice (some ⟨w3.heap.size+1,0,none⟩) 1 1)/\V.cell? ⟨w3.heap.size,3,none⟩=some (.int .i64 0)/\V.cell? ⟨w.heap.size,0,none⟩=some (.pointer (some ⟨g,0,none⟩))) (by kernel_rfl) (by kernel_rfl) ?_;refine GT.jD [0,1,2,3,4,5] hHeld (fun _ _ _ _ _ h=>h) (by kernel_rfl) ?_;iterate 3 (refine .c rfl rfl (fun V Z=>by go_simp<;>with_reducible rfl) ?_;simp only[Act.put,zc,ze,zg])
    refine .u rfl rfl ?_;try simp only[Act.put,zc,ze,zg];refine .u rfl rfl ?_;try simp only[Act.put,zc,ze,zg];refine .c rfl rfl (fun V Z=>by go_simp<;>with_reducible rfl) ?_;simp only[Act.put,zc,ze,zg];refine .nil ?_;obtain⟨n0,n1,n2,n3,m0,m1,m2,m3⟩:=aL C.out.res;refine GT.fF 6 (fun K j=> ?_) rfl (by kernel_rfl);go_simp;have I:ae [w.heap.size+1] i ((((i.setCell ⟨w.heap.size+1,0,none⟩ (.int .i64 4)).setCell ⟨w.heap.size+1,1,none⟩ (.int .i64 b)).setCell ⟨w.heap.size+1,2,none⟩ (.slice (some ⟨w3.heap.size+1,0,none⟩) 1 1)).setCell ⟨w.heap.size+1,3,none⟩ (.int .i64 0)):=((((ae.refl _ _).setCell (by simp) _).setCell (by simp) _).setCell (by simp) _).setCell (by simp) _;refine j.out _ _ (O.out _ (Q6.out.only I (by simp;omega)).drew (C.out.box.only I (by simp)).drew) (fun hHeld=> ?_);clear j K;try simp only[Act.put,zc,ze,zg]
    refine GT.oP 7 ?_ rfl (by kernel_rfl);go_simp;obtain⟨N,U,G,B,y,u⟩:=C.out.ends (.int .i64 4) (.int .i64 b) (.slice (some ⟨w3.heap.size+1,0,none⟩) 1 1) (.int .i64 0);go_wp2;refine zp (v:= .tuple #[.agg #[.int .i64 4,.int .i64 b,.slice (some ⟨w3.heap.size+1,0,none⟩) 1 1,.int .i64 0],.bool false]) (by simp[results,yC,go_sem,G,B,y,u]) rfl ?_;exact⟨.mk 0 0 [] 0,false,F,l,_,_,_,_,_,_,rfl,af.drew (show af _ g _ _ from N),U.drew,by omega,oR Gi.out AM.out (PG x AP Sl J.out L) J.out.2.2.1,(by intro h;cases h)⟩
   |true=>
    by_cases qu:∃Q5:F<s.size,s[F].toNat=93
    ·obtain⟨Q5,Vu⟩:=qu;have ad:=za (eW g s F l 93 _ (af.drew (show af i g _ _ from C.out.rd)) Q5 R Vu);refine aB 7 (fun V=>V.cell? ⟨w3.heap.size,0,none⟩=some (.int .i64 4)/\V.cell? ⟨w3.heap.size,1,none⟩=some (.int .i64 b)/\V.cell? ⟨w3.heap.size,2,none⟩=some (.slice (some ⟨w3.heap.size+1,0,none⟩) 1 1)/\V.cell? ⟨w3.heap.size,3,none⟩=some (.int .i64 0)/\V.cell? ⟨w.heap.size,0,none⟩=some (.pointer (some ⟨g,0,none⟩))) (by kernel_rfl) (by kernel_rfl) ?_;refine GT.jD [0,1,2,3] hHeld (fun _ _ _ _ _ h=>h) (by kernel_rfl) ?_;repeat(refine .c rfl rfl (fun V Z=>by go_simp<;>with_reducible rfl) ?_;simp only[Act.put,zc,ze,zg])
     refine .nil ?_;refine GT.fF 4 (fun K j=> ?_) rfl (by kernel_rfl);go_simp;refine ad.out.mono ?_;rintro e m ⟨rfl,aa,ai⟩;have E:ae [g] i m:=(ae.refl [g] i).drew.trans ai;clear ai;have r:=za (C.out.dC E aa);have ah:=za E;have N8:=za (Q6.out.only E (by simp;omega));clear hHeld aa E;go_wp2_with fail
     refine j.out _ _ (O.out m N8.out r.out.box) (fun hHeld=> ?_);clear j K;try simp only[Act.put,zc,ze,zg]
     refine GT.jD [5] hHeld (fun _ _ _ _ _ h=>h) (by kernel_rfl) ?_;refine .c rfl rfl (fun V Z=>by go_simp<;>with_reducible rfl) ?_;simp only[Act.put,zc,ze,zg];refine .nil ?_;obtain⟨n0,n1,n2,n3,m0,m1,m2,m3⟩:=aL r.out.res;refine GT.fF 6 (fun K j=> ?_) rfl (by kernel_rfl);go_simp;have I:ae [w.heap.size+1] m ((((m.setCell ⟨w.heap.size+1,0,none⟩ (.int .i64 4)).setCell ⟨w.heap.size+1,1,none⟩ (.int .i64 b)).setCell ⟨w.heap.size+1,2,none⟩ (.slice (some ⟨w3.heap.size+1,0,none⟩) 1 1)).setCell ⟨w.heap.size+1,3,none⟩ (.int .i64 0)):=((((ae.refl _ _).setCell (by simp) _).setCell (by simp) _).setCell (by simp) _).setCell (by simp) _;refine j.out _ _ (O.out _ (N8.out.only I (by simp;omega)) (r.out.box.only I (by simp))) (fun hHeld=> ?_);clear j K;try simp only[Act.put,zc,ze,zg]
     refine GT.oP 7 ?_ rfl (by kernel_rfl);go_simp;obtain⟨N,U,G,B,y,u⟩:=r.out.ends (.int .i64 4) (.int .i64 b) (.slice (some ⟨w3.heap.size+1,0,none⟩) 1 1) (.int .i64 0);go_wp2;refine zp (v:= .tuple #[.agg #[.int .i64 4,.int .i64 b,.slice (some ⟨w3.heap.size+1,0,none⟩) 1 1,.int .i64 0],.bool true]) (by simp[results,yC,go_sem,G,B,y,u]) rfl ?_;exact⟨.mk 4 b [x] 0,true,F+1,l,_,_,_,_,_,_,rfl,N,U,by omega,Iz hL Gi.out AM.out (PH x AP Sl J.out Q5 Vu) (by have:=(J.out.1 rfl).2.2;omega) (by omega),fun _=>((aq.out J.out.2.2.2).only ah.out (by simp;omega) (fun _ _ h=>h)).only (L:= [w.heap.size+1]) (((((ae.refl _ m).setCell (by simp) _).setCell (by simp) _).setCell (by simp) _).setCell (by simp) _) (by simp) (fun _ _ h=>by omega)⟩
    have ad:=za (gp g s F l 93 _ (af.drew (show af i g _ _ from C.out.rd)) J.out.2.2.1 R (fun o D=>qu ⟨o,D⟩));refine aB 7 (fun V=>V.cell? ⟨w3.heap.size,0,none⟩=some (.int .i64 4)/\V.cell? ⟨w3.heap.size,1,none⟩=some (.int .i64 b)/\V.cell? ⟨w3.heap.size,2,none⟩=some (.slice (some ⟨w3.heap.size+1,0,none⟩) 1 1)/\V.cell? ⟨w3.heap.size,3,none⟩=some (.int .i64 0)/\V.cell? ⟨w.heap.size,0,none⟩=some (.pointer (some ⟨g,0,none⟩))) (by kernel_rfl) (by kernel_rfl) ?_;refine GT.jD [0,1,2,3] hHeld (fun _ _ _ _ _ h=>h) (by kernel_rfl) ?_;repeat(refine .c rfl rfl (fun V Z=>by go_simp<;>with_reducible rfl) ?_;simp only[Act.put,zc,ze,zg])
    refine .nil ?_;refine GT.fF 4 (fun K j=> ?_) rfl (by kernel_rfl);go_simp;refine ad.out.mono ?_;rintro e m ⟨rfl,n6,ab⟩;have aa:jm m g s F l:=by rw[ab];exact C.out.rd
    have E:ae [g] i m:=by rw[ab];exact(ae.refl [g] i).drew.drewN _
    clear ab;have r:=za (C.out.dC E aa);have ah:=za E;have N8:=za (Q6.out.only E (by simp;omega));clear hHeld aa E;go_wp2_with fail
    refine j.out _ _ (O.out m N8.out r.out.box) (fun hHeld=> ?_);clear j K;try simp only[Act.put,zc,ze,zg]
    refine GT.jD [5] hHeld (fun _ _ _ _ _ h=>h) (by kernel_rfl) ?_;refine .c rfl rfl (fun V Z=>by go_simp<;>with_reducible rfl) ?_;simp only[Act.put,zc,ze,zg];refine .nil ?_;obtain⟨n0,n1,n2,n3,m0,m1,m2,m3⟩:=aL r.out.res;refine GT.fF 6 (fun K j=> ?_) rfl (by kernel_rfl);go_simp;have I:ae [w.heap.size+1] m ((((m.setCell ⟨w.heap.size+1,0,none⟩ (.int .i64 4)).setCell ⟨w.heap.size+1,1,none⟩ (.int .i64 b)).setCell ⟨w.heap.size+1,2,none⟩ (.slice (some ⟨w3.heap.size+1,0,none⟩) 1 1)).setCell ⟨w.heap.size+1,3,none⟩ (.int .i64 0)):=((((ae.refl _ _).setCell (by simp) _).setCell (by simp) _).setCell (by simp) _).setCell (by simp) _;refine j.out _ _ (O.out _ (N8.out.only I (by simp;omega)) (r.out.box.only I (by simp))) (fun hHeld=> ?_);clear j K;try simp only[Act.put,zc,ze,zg]
    refine GT.oP 7 ?_ rfl (by kernel_rfl);go_simp;obtain⟨N,U,G,B,y,u⟩:=r.out.ends (.int .i64 4) (.int .i64 b) (.slice (some ⟨w3.heap.size+1,0,none⟩) 1 1) (.int .i64 0);go_wp2;refine zp (v:= .tuple #[.agg #[.int .i64 4,.int .i64 b,.slice (some ⟨w3.heap.size+1,0,none⟩) 1 1,.int .i64 0],.bool false]) (by simp[results,yC,go_sem,G,B,y,u]) rfl ?_;exact⟨.mk 0 0 [] 0,false,F,l,_,_,_,_,_,_,rfl,N,U,by omega,oR Gi.out AM.out (MC x AP Sl J.out (fun o D=>qu ⟨o,D⟩) L) J.out.2.2.1,(by intro h;cases h)⟩
  refine(gp g s q l 58 _ Y.out.rd hq R (fun o D=>Vv ⟨o,D⟩)).mono ?_;rintro e w2 ⟨rfl,n5,rfl⟩;go_wp2;obtain⟨E1,E2,G,B,y,u⟩:=(Y.out.below (V':=(H.alloc (.cells #[.int .i64 k,.int .i64 z,.slice A n cap,.int .i64 M] 64)).drewN n5) bM).ends (.int .i64 0) (.int .i64 0) (.slice none 0 0) (.int .i64 0);refine zp (v:= .tuple #[.agg #[.int .i64 0,.int .i64 0,.slice none 0 0,.int .i64 0],.bool false]) (by simp[results,yC,go_sem,G,B,y,u]) rfl ?_;exact⟨.mk 0 0 [] 0,false,q,l,_,_,_,_,_,_,rfl,E1,E2,by omega,oR Gi.out AM.out (PF x (fun o D=>Vv ⟨o,D⟩) L) hq,(by intro h;cases h)⟩
def abH (w:World)(g:Nat)(s:ByteArray)(L:Nat)(R:Option (Ty×List UInt8))(e:Ending)(w':World):Prop:=
 ∃(t:Ty) (ok:Bool) (q L':Nat) (k z ta:Int) (A:Option Addr) (n cap:Nat),e= .returned (.tuple #[.agg #[.int .i64 k,.int .i64 z,.slice A n cap,.int .i64 ta],.bool ok])/\jm w' g s q L'/\ae [g] w w'/\L'<=L/\OR (1+L) s R t ok q L'/\(ok=true->fy w' (w.heap.size<= ·) t (.int .i64 k) (.int .i64 z) (.slice A n cap) (.int .i64 ta))
structure oU (w:World)(g:Nat)(s:ByteArray)(p L:Nat)(acc:List Ty)(tl:Nat)(v:Value)(V:World):Prop where
 res:af V w.heap.size 64 #[.int .i64 0,.int .i64 0,.slice none 0 0,.int .i64 0]
 bx:af V (w.heap.size+1) 64 #[.int .i64 5,.int .i64 0,v,.int .i64 tl]
 acc:eJ V (w.heap.size+2) acc v
 rd:jm V g s p L
 only:ae [g] w V
 siz:w.heap.size+2<=V.heap.size
 glt:g<w.heap.size
theorem oU.start {w:World}{g:Nat}{s:ByteArray}{p L:Nat}(h:jm w g s p L):oU w g s p L [] 0 (.slice none 0 0) ((w.alloc (.cells #[.int .i64 0,.int .i64 0,.slice none 0 0,.int .i64 0] 64)).alloc (.cells #[.int .i64 5,.int .i64 0,.slice none 0 0,.int .i64 0] 64)) where
 res:=(af.new w _ _).alloc _
 bx:=af.at_ (by simp)
 acc:=eJ.nil _ _
 rd:=(af.alloc (show af w g _ _ from h) _).alloc _
 only:=((ae.refl _ w).alloc _).alloc _
 siz:=by simp
 glt:=af.lt (show af w g _ _ from h)
theorem oU.dC {w V V':World}{g:Nat}{s:ByteArray}{p p' L L' c:Nat}{acc:List Ty}{v:Value}(h:oU w g s p L acc c v V)(b:ae [g] V V')(d:jm V' g s p' L'):oU w g s p' L' acc c v V' where
 res:=h.res.only b (by have:=h.glt;simp;omega)
 bx:=h.bx.only b (by have:=h.glt;simp;omega)
 acc:=h.acc.only b (by have:=h.glt;simp;omega)
 rd:=d
 only:=h.only.trans b
 siz:=zP h.siz b.size
 glt:=h.glt
theorem oU.below {w V V':World}{g:Nat}{s:ByteArray}{p L c:Nat}{acc:List Ty}{v:Value}(h:oU w g s p L acc c v V)(b:Below V.heap.size V V'):oU w g s p L acc c v V':=h.dC ((ae.ah b (zi _)).mono (by simp)) ((b.block _ (af.lt (show af V g _ _ from h.rd))).trans h.rd)
theorem oU.mark {w V:World}{g:Nat}{s:ByteArray}{p L b:Nat}{acc:List Ty}{v:Value}(h:oU w g s p L acc b v V){n:Int}(c:n=(b+1:Nat)):oU w g s p L acc (b+1) v (V.setCell ⟨w.heap.size+1,3,none⟩ (.int .i64 n)) where
 res:=h.res.dz (by simp) _
 bx:=by subst c;exact h.bx.store rfl
 acc:=h.acc.only ((ae.refl [w.heap.size+1] V).setCell (by simp) _) (by simp)
 rd:=af.dz (show af V g _ _ from h.rd) (by have:=h.glt;simp;omega) _
 only:=h.only.setCell (by simp) _
 siz:=by simp[World.setCell];exact h.siz
 glt:=h.glt
theorem oU.more {w V V':World}{g:Nat}{s:ByteArray}{p L l:Nat}{acc i:List Ty}{v d:Value}(h:oU w g s p L acc l v V)(b:V.grownBy V' v.ownBlock)(m:eJ V' (w.heap.size+2) i d):oU w g s p L i l d (V'.setCell ⟨w.heap.size+1,2,none⟩ d):=
 have c:∀k,k<w.heap.size+2->v.ownBlock≠some k:=fun k j e=>by have:=(h.acc.ge k e).1;omega
 ⟨(h.res.grown b (c _ (by omega))).dz (by simp) _,
  (h.bx.grown b (c _ (by omega))).store rfl,
  m.only ((ae.refl [w.heap.size+1] V').setCell (by simp) _) (by simp),
  (af.grown (show af V g _ _ from h.rd) b (c _ (by have:=h.glt;omega))).dz (by have:=h.glt;simp;omega) _,
  (h.only.grown b (fun k j=> .inr (by have:=(h.acc.ge k j).1;omega))).setCell (by simp) _,
  (by simp[World.setCell];exact zP h.siz b.size),
  h.glt⟩
theorem oU.ends {w V:World}{g:Nat}{s:ByteArray}{p L i:Nat}{acc:List Ty}{v:Value}(h:oU w g s p L acc i v V)(b c d e:Value):
 jm ((((V.setCell ⟨w.heap.size,0,none⟩ b).setCell ⟨w.heap.size,1,none⟩ c).setCell ⟨w.heap.size,2,none⟩ d).setCell ⟨w.heap.size,3,none⟩ e) g s p L/\ae [g] w ((((V.setCell ⟨w.heap.size,0,none⟩ b).setCell ⟨w.heap.size,1,none⟩ c).setCell ⟨w.heap.size,2,none⟩ d).setCell ⟨w.heap.size,3,none⟩ e)/\
 (V.setCell ⟨w.heap.size,0,none⟩ b).cell? ⟨w.heap.size,0,none⟩=some b/\((V.setCell ⟨w.heap.size,0,none⟩ b).setCell ⟨w.heap.size,1,none⟩ c).cell? ⟨w.heap.size,1,none⟩=some c/\(((V.setCell ⟨w.heap.size,0,none⟩ b).setCell ⟨w.heap.size,1,none⟩ c).setCell ⟨w.heap.size,2,none⟩ d).cell? ⟨w.heap.size,2,none⟩=some d/\((((V.setCell ⟨w.heap.size,0,none⟩ b).setCell ⟨w.heap.size,1,none⟩ c).setCell ⟨w.heap.size,2,none⟩ d).setCell ⟨w.heap.size,3,none⟩ e).cell? ⟨w.heap.size,3,none⟩=some e:=
 have n1:g≠w.heap.size:=by have:=h.glt;omega
 ⟨(((af.dz (show af V g _ _ from h.rd) (p:=⟨w.heap.size,0,none⟩) n1 _).dz (p:=⟨w.heap.size,1,none⟩) n1 _).dz (p:=⟨w.heap.size,2,none⟩) n1 _).dz (p:=⟨w.heap.size,3,none⟩) n1 _,(((h.only.setCell (by simp) _).setCell (by simp) _).setCell (by simp) _).setCell (by simp) _,by have:=(h.res.set 0 b).cell 0;simpa using this,by have:=((h.res.set 0 b).set 1 c).cell 1;simpa using this,by have:=(((h.res.set 0 b).set 1 c).set 2 d).cell 2;simpa using this,by have:=((((h.res.set 0 b).set 1 c).set 2 d).set 3 e).cell 3;simpa using this⟩
theorem oU.ty {w V:World}{g:Nat}{s:ByteArray}{p L b:Nat}{acc:List Ty}{v:Value}(h:oU w g s p L acc b v V)(n:acc.length<=200000)(m:b<=200000)(e d j c:Value):fy ((((V.setCell ⟨w.heap.size,0,none⟩ e).setCell ⟨w.heap.size,1,none⟩ d).setCell ⟨w.heap.size,2,none⟩ j).setCell ⟨w.heap.size,3,none⟩ c) (w.heap.size<= ·) (.mk 5 0 acc b) (.int .i64 5) (.int .i64 0) v (.int .i64 b):=by
 have l:eJ _ (w.heap.size+2) acc v:=h.acc.only (L:= [w.heap.size]) (w':=(((V.setCell ⟨w.heap.size,0,none⟩ e).setCell ⟨w.heap.size,1,none⟩ d).setCell ⟨w.heap.size,2,none⟩ j).setCell ⟨w.heap.size,3,none⟩ c) (((((ae.refl _ _).setCell (by simp) _).setCell (by simp) _).setCell (by simp) _).setCell (by simp) _) (by simp);refine fy.fW (l.ty (by omega) (aA (by omega) (by omega)) (aA (by omega) (by omega)) (aA (by omega) (by omega))) fun k _ i=> ?_
 have i:w.heap.size+2<=k:=i;show w.heap.size<=k
 omega
theorem II (f d:Nat)(hd:d<=8)(IH:Hid (∀(g:Nat) (s:ByteArray) (p L:Nat) (w:World),jm w g s p L->p<=s.size->s.size<=100000->L<=64->
 Calls Tryz.prog 101 #[.pointer (some ⟨g,0,none⟩),.int .i64 ((d:Int)+1)] w fun e w'=>kb w g s f L p e w')) (g:Nat) (s:ByteArray) (p L:Nat) (ab:Option (Ty×List UInt8)) (w:World) (h:jm w g s p L) (hT:Hid (eL f s ab p [] 0)) (hp:p<=s.size) (Z:s.size<=100000) (NC:L<=64):
 Calls Tryz.prog 150 #[.pointer (some ⟨g,0,none⟩),.int .i64 d] w fun e w'=>abH w g s L ab e w':=by
 have ed:IntKind.i64.wrap ((d:Int)+1)=(d:Int)+1:=yg _ (by omega);have cL:=za (oU.start h);clear h;go_enter Tryz.func150,Tryz.ntmps150
 go_wp2_with fail
 by_cases Vv:∃hq:p<s.size,s[p].toNat=125
 ·obtain⟨AP,F⟩:=Vv;refine(eW g s p L 125 _ cL.out.rd AP Z F).mono ?_;rintro e w1 ⟨rfl,Vw,al⟩;have iH:=za (cL.out.dC al Vw);clear Vw al;obtain⟨W,O,Y,J,G,H,N,U⟩:=aL iH.out.res;obtain⟨x,z,r,E,u,C,B,D⟩:=aL iH.out.bx;go_wp2;obtain⟨I,S,X,R,M,K⟩:=iH.out.ends (.int .i64 5) (.int .i64 0) (.slice none 0 0) (.int .i64 0);refine zp (v:= .tuple #[.agg #[.int .i64 5,.int .i64 0,(.slice none 0 0),.int .i64 0],.bool true]) (by simp[results,xM,go_sem,X,R,M,K]) rfl ?_;exact⟨.mk 5 0 [] 0,true,p+1,L,_,_,_,_,_,_,rfl,I,S,zi _,IB (hT.out.ends AP F) (by simp[aZ]) (by omega),fun _=>iH.out.ty (by simp) (by omega) _ _ _ _⟩
 have Dw:=za (IA hT.out (fun i j=>Vv ⟨i,j⟩));refine(gp g s p L 125 _ cL.out.rd hp Z (fun i j=>Vv ⟨i,j⟩)).mono ?_;rintro e w1 ⟨rfl,n1,o6⟩;have iH:Hid (oU w g s p L [] 0 (.slice none 0 0) w1):=za (by rw[o6];exact cL.out.below bM);clear o6 Vv;go_wp2_with fail
 go_loopw [7] (fun _ wr=>∃(q Lc:Nat) (acc:List Ty) (l:Nat) (vv:Value),q<=s.size/\Hid (qZ f s ab q acc l)/\Hid (Lc+aZ acc=L)/\Lc<=L/\acc.length<=q/\l<=q/\Hid (oU w g s q Lc acc l vv wr)) (fun _ wr=>s.size-Pq (wr.cell? ⟨g,1,none⟩))
 case atStart=>exact⟨p,L,[],0,_,hp,Dw,za (by simp[aZ]),zi _,by simp,by omega,iH⟩
 case round=>
  clear cL iH Dw;obtain⟨q,Lc,acc,l,vv,hq,Dw,wX,aG,wY,qJ,HW⟩:=hrel;obtain⟨c0,c1,c2,an,ax,ay,qu⟩:=HW.out.rd.cells;obtain⟨A2,n2,ca,rfl,Jn,aE,aB⟩:=HW.out.acc.df;obtain⟨W,O,Y,J,G,H,N,U⟩:=aL HW.out.res;obtain⟨x,z,r,E,u,C,B,D⟩:=aL HW.out.bx;clear c0 c2 an ax ay;by_cases Dv:∃hq:q<s.size,s[q].toNat=63
  ·obtain⟨AP,Dv⟩:=Dv;have aF:IntKind.i64.wrap ((l:Int)+1)=(l:Int)+1:=yg _ (by omega);clear W O Y J G H N U x z r E u C B D;go_wp2_with fail
   refine(eW g s q Lc 63 _ HW.out.rd AP Z Dv).mono ?_;rintro e w2 ⟨rfl,iG,cO⟩;have rP:=za (HW.out.dC cO iG);clear iG cO;obtain⟨W,O,Y,J,G,H,N,U⟩:=aL rP.out.res;obtain⟨x,z,r,E,u,C,B,D⟩:=aL rP.out.bx;obtain⟨W3,ox⟩:∃W3,w2.setCell ⟨w.heap.size+1,3,none⟩ (.int .i64 ((l:Int)+1))=W3:=⟨_,rfl⟩
   obtain⟨T,ah⟩:∃T,l+1=T:=⟨_,rfl⟩
   have tX:Hid (oU w g s (q+1) Lc acc T (.slice A2 n2 ca) W3):=za (by rw[<-ox,<-ah];exact rP.out.mark (by omega));have qA:Hid (OO f s ab (q+1) acc T):=za (by rw[<-ah];exact Dw.out.mark AP Dv);have ar:=za ox;have hQ:q+1<=s.size:=by omega
   have aC:T<=q+1:=by omega
   clear ox ah;go_wp2_with fail
   rw[ar.out];refine(IH.out g s ((q+1)) Lc W3 tX.out.rd hQ Z (by omega)).mono ?_;rintro e w4 ⟨y,ok,b,c,k,ak,ta,A,n,cap,rfl,hr,ho,au,hn,nO⟩;have AQ:=za (tX.out.dC ho hr);have AM:=za hn;have Q8:=za nO;have Q5:=hn.2.2;have av:=tX.out.siz;have aA:=AQ.out.siz;have YK:w.heap.size<w4.heap.size:=by omega
   have ao:w.heap.size+1<w4.heap.size:=by omega
   clear hr ho hn nO W O Y J G H N U x z r E u C B D;obtain⟨W,O,Y,J,G,H,N,U⟩:=aL AQ.out.res;obtain⟨x,z,r,E,u,C,B,D⟩:=aL AQ.out.bx;cases ok with
   |false=>
    go_wp2;obtain⟨I,S,X,R,M,K⟩:=AQ.out.ends (.int .i64 0) (.int .i64 0) (.slice none 0 0) (.int .i64 0);refine zp (v:= .tuple #[.agg #[.int .i64 0,.int .i64 0,.slice none 0 0,.int .i64 0],.bool false]) (by simp[results,xM,go_sem,X,R,M,K,zE,YK]) rfl ?_;exact⟨.mk 0 0 [] 0,false,b,c,_,_,_,_,_,_,rfl,af.alloc (show af _ g _ _ from I) _,S.alloc _,by omega,PI _ qA.out AM.out wX.out,(by intro h;cases h)⟩
   |true=>
    have Q9:=za (Kw qA.out hQ AM.out);obtain⟨_,wT,az⟩:=AM.out.1 rfl;have Lh:Hid (c+aZ (acc++ [y])=L):=za (by rw[sJ];have:=wX.out;omega);have qP:Hid (∀o o',oU w g s b c acc (T) (.slice A2 n2 ca) ((w4.alloc o).alloc o')):=za (fun o o'=>AQ.out.below bM);have HY:Hid (∀o o',fy ((w4.alloc o).alloc o') (fun k=>w.heap.size+2<=k/\(Value.slice A2 n2 ca).ownBlock≠some k) y (.int .i64 k) (.int .i64 ak) (.slice A n cap) (.int .i64 ta)):=za (fun o o'=>((Q8.out (by first|rfl|trivial)).fW (fun k _ hk=>⟨by have hk:W3.heap.size<=k:=hk;omega,fun e=>by have:=(tX.out.acc.ge k e).2;have hk:W3.heap.size<=k:=hk;omega⟩)).below bM);have aj:acc.length<=1000000:=by omega
    clear wT;go_wp2_with (at_builtin;refine cq (by rfl) (.tmp 34) (.tmp 36) (by rfl) (w.heap.size+2) acc (by rfl) (qP.out _ _).acc y (HY.out _ _) _ (by rfl) (by simp) (by simp) (by simp) (by simp) aj (by simp only[zu];omega) ?_)
    intro g' n' aq w6 Sg Gn fE aw;have Q7:=af.grown (qP.out _ _).bx fE (fun e=>by have:=((qP.out (.cells #[] 0) (.cells #[] 0)).acc.ge _ e).1;omega);clear W O Y J G H N U x z r E u C B D;obtain⟨x,z,r,E,u,C,B,D⟩:=aL Q7;obtain⟨W7,qQ⟩:∃W7,w6.setCell ⟨w.heap.size+1,2,none⟩ (.slice (some ⟨g',0,none⟩) n' aq)=W7:=⟨_,rfl⟩
    have Gp:Hid (oU w g s b c (acc++ [y]) (T) (.slice (some ⟨g',0,none⟩) n' aq) W7):=za (by rw[<-qQ];exact(qP.out _ _).more fE Gn);have ai:=za qQ;clear qQ Q7 fE Gn;go_wp2_with fail
    rw[ai.out];clear x z r E u C B D;by_cases F:∃hq:b<s.size,s[b].toNat=125
    ·obtain⟨wI,F⟩:=F;refine(eW g s b c 125 _ Gp.out.rd wI Z F).mono ?_;rintro e w8 ⟨rfl,ad,N9⟩;have m:=za (Gp.out.dC N9 ad);clear ad N9;obtain⟨W,O,Y,J,G,H,N,U⟩:=aL m.out.res;obtain⟨x,z,r,E,u,C,B,D⟩:=aL m.out.bx;go_wp2;obtain⟨I,S,X,R,M,K⟩:=m.out.ends (.int .i64 5) (.int .i64 0) (.slice (some ⟨g',0,none⟩) n' aq) (.int .i64 ((T:Nat):Int));refine zp (v:= .tuple #[.agg #[.int .i64 5,.int .i64 0,(.slice (some ⟨g',0,none⟩) n' aq),.int .i64 ((T:Nat):Int)],.bool true]) (by simp[results,xM,go_sem,X,R,M,K]) rfl ?_;exact⟨.mk 5 0 (acc++ [y]) ((T:Nat):Int),true,b+1,c,_,_,_,_,_,_,rfl,I,S,by omega,IB (Q9.out.ends wI F) Lh.out (by omega),fun _=>m.out.ty (by simp;omega) (by omega) _ _ _ _⟩
    refine(gp g s b c 125 _ Gp.out.rd Q5 Z (fun i j=>F ⟨i,j⟩)).mono ?_;rintro e w8 ⟨rfl,n8,aa⟩;have m:Hid (oU w g s b c (acc++ [y]) (T) (.slice (some ⟨g',0,none⟩) n' aq) w8):=za (by rw[aa];exact Gp.out.below bM);clear aa;go_wp2_with fail
    by_cases tu:∃hq:b<s.size,s[b].toNat=44
    ·obtain⟨wI,tu⟩:=tu;refine(eW g s b c 44 _ m.out.rd wI Z tu).mono ?_;rintro e w9 ⟨rfl,ag,mi⟩;have NH:=za (m.out.dC mi ag);have c9:=NH.out.rd.cells.2.1;clear ag mi;go_wp2;go_roundw
     case rel=>exact⟨b+1,c,acc++ [y],T,_,by omega,za (Q9.out.more wI tu (by simp)),Lh,by omega,by simp;omega,by omega,NH⟩
     case measure=>
      rw[c1,c9];simp only[Pq];omega
    refine(gp g s b c 44 _ m.out.rd Q5 Z (fun i j=>tu ⟨i,j⟩)).mono ?_;rintro e w9 ⟨rfl,n9,ae⟩;have NH:Hid (oU w g s b c (acc++ [y]) (T) (.slice (some ⟨g',0,none⟩) n' aq) w9):=za (by rw[ae];exact m.out.below bM);clear ae;obtain⟨W,O,Y,J,G,H,N,U⟩:=aL NH.out.res;obtain⟨x,z,r,E,u,C,B,D⟩:=aL NH.out.bx;go_wp2;obtain⟨I,S,X,R,M,K⟩:=NH.out.ends (.int .i64 0) (.int .i64 0) (.slice none 0 0) (.int .i64 0);refine zp (v:= .tuple #[.agg #[.int .i64 0,.int .i64 0,.slice none 0 0,.int .i64 0],.bool false]) (by simp[results,xM,go_sem,X,R,M,K]) rfl ?_;exact⟨.mk 0 0 [] 0,false,b,c,_,_,_,_,_,_,rfl,I,S,by omega,C1 _ (BV Q9.out (by simp) (fun i j=>F ⟨i,j⟩) (fun i j=>tu ⟨i,j⟩)) Q5,(by intro h;cases h)⟩
  go_wp2_with fail
  refine(gp g s q Lc 63 _ HW.out.rd hq Z (fun i j=>Dv ⟨i,j⟩)).mono ?_;rintro e w2 ⟨rfl,aD,tT⟩;have tX:Hid (oU w g s q Lc acc l (.slice A2 n2 ca) w2):=za (by rw[tT];exact HW.out.below bM);clear tT W O Y J G H N U x z r E u C B D;obtain⟨W,O,Y,J,G,H,N,U⟩:=aL tX.out.res;obtain⟨x,z,r,E,u,C,B,D⟩:=aL tX.out.bx;by_cases NI:0<l
  ·skip
   go_wp2;obtain⟨I,S,X,R,M,K⟩:=tX.out.ends (.int .i64 0) (.int .i64 0) (.slice none 0 0) (.int .i64 0);refine zp (v:= .tuple #[.agg #[.int .i64 0,.int .i64 0,.slice none 0 0,.int .i64 0],.bool false]) (by simp[results,xM,go_sem,X,R,M,K]) rfl ?_;exact⟨.mk 0 0 [] 0,false,q,Lc,_,_,_,_,_,_,rfl,I,S,by omega,C1 _ (Dw.out.none_ (fun i j=>Dv ⟨i,j⟩) NI) hq,(by intro h;cases h)⟩
  have qA:Hid (OO f s ab q acc l):=za (by
   obtain rfl:l=0:=by omega
   exact Dw.out.plain (fun i j=>Dv ⟨i,j⟩))
  obtain⟨W3,rfl⟩:∃W3,W3=w2:=⟨w2,rfl⟩
  have hQ:=hq;go_wp2_with fail
  refine(IH.out g s (q) Lc W3 tX.out.rd hQ Z (by omega)).mono ?_;rintro e w4 ⟨y,ok,b,c,k,ak,ta,A,n,cap,rfl,hr,ho,au,hn,nO⟩;have AQ:=za (tX.out.dC ho hr);have AM:=za hn;have Q8:=za nO;have Q5:=hn.2.2;have av:=tX.out.siz;have aA:=AQ.out.siz;have YK:w.heap.size<w4.heap.size:=by omega
  have ao:w.heap.size+1<w4.heap.size:=by omega
  clear hr ho hn nO W O Y J G H N U x z r E u C B D;obtain⟨W,O,Y,J,G,H,N,U⟩:=aL AQ.out.res;obtain⟨x,z,r,E,u,C,B,D⟩:=aL AQ.out.bx;cases ok with
  |false=>
   go_wp2;obtain⟨I,S,X,R,M,K⟩:=AQ.out.ends (.int .i64 0) (.int .i64 0) (.slice none 0 0) (.int .i64 0);refine zp (v:= .tuple #[.agg #[.int .i64 0,.int .i64 0,.slice none 0 0,.int .i64 0],.bool false]) (by simp[results,xM,go_sem,X,R,M,K,zE,YK]) rfl ?_;exact⟨.mk 0 0 [] 0,false,b,c,_,_,_,_,_,_,rfl,af.alloc (show af _ g _ _ from I) _,S.alloc _,by omega,PI _ qA.out AM.out wX.out,(by intro h;cases h)⟩
  |true=>
   have Q9:=za (Kw qA.out hQ AM.out);obtain⟨_,wT,az⟩:=AM.out.1 rfl;have Lh:Hid (c+aZ (acc++ [y])=L):=za (by rw[sJ];have:=wX.out;omega);have qP:Hid (∀o o',oU w g s b c acc (l) (.slice A2 n2 ca) ((w4.alloc o).alloc o')):=za (fun o o'=>AQ.out.below bM);have HY:Hid (∀o o',fy ((w4.alloc o).alloc o') (fun k=>w.heap.size+2<=k/\(Value.slice A2 n2 ca).ownBlock≠some k) y (.int .i64 k) (.int .i64 ak) (.slice A n cap) (.int .i64 ta)):=za (fun o o'=>((Q8.out (by first|rfl|trivial)).fW (fun k _ hk=>⟨by have hk:W3.heap.size<=k:=hk;omega,fun e=>by have:=(tX.out.acc.ge k e).2;have hk:W3.heap.size<=k:=hk;omega⟩)).below bM);have aj:acc.length<=1000000:=by omega
   clear wT;go_wp2_with (at_builtin;refine cq (by rfl) (.tmp 34) (.tmp 36) (by rfl) (w.heap.size+2) acc (by rfl) (qP.out _ _).acc y (HY.out _ _) _ (by rfl) (by simp) (by simp) (by simp) (by simp) aj (by simp only[zu];omega) ?_)
   intro g' n' aq w6 Sg Gn fE aw;have Q7:=af.grown (qP.out _ _).bx fE (fun e=>by have:=((qP.out (.cells #[] 0) (.cells #[] 0)).acc.ge _ e).1;omega);clear W O Y J G H N U x z r E u C B D;obtain⟨x,z,r,E,u,C,B,D⟩:=aL Q7;obtain⟨W7,qQ⟩:∃W7,w6.setCell ⟨w.heap.size+1,2,none⟩ (.slice (some ⟨g',0,none⟩) n' aq)=W7:=⟨_,rfl⟩
   have Gp:Hid (oU w g s b c (acc++ [y]) (l) (.slice (some ⟨g',0,none⟩) n' aq) W7):=za (by rw[<-qQ];exact(qP.out _ _).more fE Gn);have ai:=za qQ;clear qQ Q7 fE Gn;go_wp2_with fail
   rw[ai.out];clear x z r E u C B D;by_cases F:∃hq:b<s.size,s[b].toNat=125
   ·obtain⟨wI,F⟩:=F;refine(eW g s b c 125 _ Gp.out.rd wI Z F).mono ?_;rintro e w8 ⟨rfl,ad,N9⟩;have m:=za (Gp.out.dC N9 ad);clear ad N9;obtain⟨W,O,Y,J,G,H,N,U⟩:=aL m.out.res;obtain⟨x,z,r,E,u,C,B,D⟩:=aL m.out.bx;go_wp2;obtain⟨I,S,X,R,M,K⟩:=m.out.ends (.int .i64 5) (.int .i64 0) (.slice (some ⟨g',0,none⟩) n' aq) (.int .i64 ((l:Nat):Int));refine zp (v:= .tuple #[.agg #[.int .i64 5,.int .i64 0,(.slice (some ⟨g',0,none⟩) n' aq),.int .i64 ((l:Nat):Int)],.bool true]) (by simp[results,xM,go_sem,X,R,M,K]) rfl ?_;exact⟨.mk 5 0 (acc++ [y]) ((l:Nat):Int),true,b+1,c,_,_,_,_,_,_,rfl,I,S,by omega,IB (Q9.out.ends wI F) Lh.out (by omega),fun _=>m.out.ty (by simp;omega) (by omega) _ _ _ _⟩
   refine(gp g s b c 125 _ Gp.out.rd Q5 Z (fun i j=>F ⟨i,j⟩)).mono ?_;rintro e w8 ⟨rfl,n8,aa⟩;have m:Hid (oU w g s b c (acc++ [y]) (l) (.slice (some ⟨g',0,none⟩) n' aq) w8):=za (by rw[aa];exact Gp.out.below bM);clear aa;go_wp2_with fail
   by_cases tu:∃hq:b<s.size,s[b].toNat=44
   ·obtain⟨wI,tu⟩:=tu;refine(eW g s b c 44 _ m.out.rd wI Z tu).mono ?_;rintro e w9 ⟨rfl,ag,mi⟩;have NH:=za (m.out.dC mi ag);have c9:=NH.out.rd.cells.2.1;clear ag mi;go_wp2;go_roundw
    case rel=>exact⟨b+1,c,acc++ [y],l,_,by omega,za (Q9.out.more wI tu (by simp)),Lh,by omega,by simp;omega,by omega,NH⟩
    case measure=>
     rw[c1,c9];simp only[Pq];omega
   refine(gp g s b c 44 _ m.out.rd Q5 Z (fun i j=>tu ⟨i,j⟩)).mono ?_;rintro e w9 ⟨rfl,n9,ae⟩;have NH:Hid (oU w g s b c (acc++ [y]) (l) (.slice (some ⟨g',0,none⟩) n' aq) w9):=za (by rw[ae];exact m.out.below bM);clear ae;obtain⟨W,O,Y,J,G,H,N,U⟩:=aL NH.out.res;obtain⟨x,z,r,E,u,C,B,D⟩:=aL NH.out.bx;go_wp2;obtain⟨I,S,X,R,M,K⟩:=NH.out.ends (.int .i64 0) (.int .i64 0) (.slice none 0 0) (.int .i64 0);refine zp (v:= .tuple #[.agg #[.int .i64 0,.int .i64 0,.slice none 0 0,.int .i64 0],.bool false]) (by simp[results,xM,go_sem,X,R,M,K]) rfl ?_;exact⟨.mk 0 0 [] 0,false,b,c,_,_,_,_,_,_,rfl,I,S,by omega,C1 _ (BV Q9.out (by simp) (fun i j=>F ⟨i,j⟩) (fun i j=>tu ⟨i,j⟩)) Q5,(by intro h;cases h)⟩
theorem PR (f d:Nat)(hd:d<=8)(D:Hid (∀(g:Nat) (s:ByteArray) (p L:Nat) (w:World),jm w g s p L->p<=s.size->s.size<=100000->L<=64->
 Calls Tryz.prog 101 #[.pointer (some ⟨g,0,none⟩),.int .i64 ((d:Int)+1)] w fun e w'=>kb w g s f L p e w')) (g:Nat) (s:ByteArray) (p L:Nat) (w:World) (h:jm w g s p L) (K:p<s.size) (F:s.size<=100000) (hL:0<L) (NC:L<=64) (O:s[p].toNat=123):
 Calls Tryz.prog 101 #[.pointer (some ⟨g,0,none⟩),.int .i64 d] w fun e w'=>kb w g s (f+1) L p e w':=by
 have B:=za (PJ (f:=f) K O);have b:=za (sI.start h);generalize Z:((w.alloc (.cells #[.pointer (some ⟨g,0,none⟩)] 148)).alloc (.cells #[.int .i64 0,.int .i64 0,.slice none 0 0,.int .i64 0] 64))=W at*;obtain⟨g0,g1,g2,f0,f1,f2,o7⟩:=b.out.rd.cells;have b0:W.cell? ⟨w.heap.size,0,none⟩=some (.pointer (some ⟨g,0,none⟩)):=b.out.box.cell 0;have d1:decide ((8:Int)<(d:Int))=false:=zz (by omega);have dL:((L:Int)==0)=false:=zr.2 (by omega);have dp:((p:Int)==(s.size:Int))=false:=zr.2 (by omega);have ew:IntKind.i64.wrap ((L:Int)-1)=(L:Int)-1:=yg _ (by omega);clear h;go_enter xX,xQ
 go_wp2_with fail
 go_quiet (fail)
 obtain⟨i,rfl⟩:∃i,i=nq:=⟨nq,rfl⟩
 go_wp2_with fail
 go_quiet (fail)
 have m:=za (b.out.step ((L:Int)-1) ((p:Int)+1) i nq (L':=L-1) (p':=p+1) (by omega) (by omega));have r:=za (II f d hd D g s (p+1) (L-1) _ _ m.out.rd B (by omega) F (by omega));clear D B;go_wp2_with fail
 refine r.out.mono ?_;rintro e C ⟨t,ok,q,S,k,z,j,A,n,cap,rfl,l,u,X,y,x⟩;have o:=za (m.out.dC u l);have I:=za y;have J:Hid (ok=true->fy C (w.heap.size+2<= ·) t (.int .i64 k) (.int .i64 z) (.slice A n cap) (.int .i64 j)):=za (fun h=>(x h).fW (fun k _ c=>by simp[World.setCell]at c;have:=b.out.siz;omega));clear l u y x r;obtain⟨n0,n1,n2,Y,m0,m1,m2,m3⟩:=aL o.out.res;go_wp2;obtain⟨E,G,N,R,H,U⟩:=o.out.ends (.int .i64 k) (.int .i64 z) (.slice A n cap) (.int .i64 j);refine zp (v:= .tuple #[.agg #[.int .i64 k,.int .i64 z,.slice A n cap,.int .i64 j],.bool ok]) (by simp[results,yC,go_sem,N,R,H,U]) rfl ?_;refine⟨t,ok,q,S,_,_,_,_,_,_,rfl,E,G,by omega, ?_,fun M=>(J.out M).only (L:= [w.heap.size+1]) (((((ae.refl _ C).setCell (by simp) _).setCell (by simp) _).setCell (by simp) _).setCell (by simp) _) (by simp) (fun k _ c=>by have c:w.heap.size+2<=k:=c;show w.heap.size<=k;omega)⟩;have:=abE I.out;rwa [show 1+(L-1)=L from by omega]at this
theorem Fz (t:Ty):0<t.count:=by
 cases t with
 |mk k s l ta=>simp only[Ty.count];omega
theorem PT (f d:Nat)(hd:d=9)(m:f=0)(g:Nat)(s:ByteArray)(p L:Nat)(w:World)(h:jm w g s p L)(n:p<=s.size)(y:s.size<=100000)(E:L<=64)(C:True):
 Calls Tryz.prog 101 #[.pointer (some ⟨g,0,none⟩),.int .i64 d] w fun e w'=>kb w g s f L p e w':=by
 have c:=za (sI.start h);generalize A:((w.alloc (.cells #[.pointer (some ⟨g,0,none⟩)] 148)).alloc (.cells #[.int .i64 0,.int .i64 0,.slice none 0 0,.int .i64 0] 64))=W at*;obtain⟨g0,g1,g2,f0,f1,f2,D⟩:=c.out.rd.cells;clear h;go_enter xX,xQ
 go_wp2_with fail
 go_quiet (fail)
 obtain⟨b,rfl⟩:∃b,b=nq:=⟨nq,rfl⟩
 have l:Hid (sI w g s p L (W.drewN b)):=za (c.out.below bM);obtain⟨B,n1,n2,z,m0,m1,m2,m3⟩:=aL c.out.res;go_wp2;obtain⟨i,j,o,u,k,x⟩:=l.out.ends (.int .i64 0) (.int .i64 0) (.slice none 0 0) (.int .i64 0);refine zp (v:= .tuple #[.agg #[.int .i64 0,.int .i64 0,.slice none 0 0,.int .i64 0],.bool false]) (by simp[results,yC,go_sem,o,u,k,x]) rfl ?_;exact⟨.mk 0 0 [] 0,false,p,L,_,_,_,_,_,_,rfl,i,j,zi _,⟨(by intro h;cases h),(by intro _ F r q;subst m;cases q),n⟩,(by intro h;cases h)⟩
theorem PU (f d:Nat)(hd:d<=8)(g:Nat)(s:ByteArray)(p L:Nat)(w:World)(h:jm w g s p L)(m:p<=s.size)(x:s.size<=100000)(G:L<=64)(B:L=0):
 Calls Tryz.prog 101 #[.pointer (some ⟨g,0,none⟩),.int .i64 d] w fun e w'=>kb w g s f L p e w':=by
 have F:decide ((8:Int)<(d:Int))=false:=zz (by omega);have H:((L:Int)==0)=true:=xh.2 (by omega);have b:=za (sI.start h);generalize z:((w.alloc (.cells #[.pointer (some ⟨g,0,none⟩)] 148)).alloc (.cells #[.int .i64 0,.int .i64 0,.slice none 0 0,.int .i64 0] 64))=W at*;obtain⟨g0,g1,g2,f0,f1,f2,D⟩:=b.out.rd.cells;have C:W.cell? ⟨w.heap.size,0,none⟩=some (.pointer (some ⟨g,0,none⟩)):=b.out.box.cell 0;clear h;go_enter xX,xQ
 go_wp2_with fail
 go_quiet (fail)
 obtain⟨c,rfl⟩:∃c,c=nq:=⟨nq,rfl⟩
 have l:Hid (sI w g s p L (W.drewN c)):=za (b.out.below bM);obtain⟨A,n1,n2,y,m0,m1,m2,m3⟩:=aL b.out.res;go_wp2;obtain⟨i,j,n,o,k,q⟩:=l.out.ends (.int .i64 0) (.int .i64 0) (.slice none 0 0) (.int .i64 0);refine zp (v:= .tuple #[.agg #[.int .i64 0,.int .i64 0,.slice none 0 0,.int .i64 0],.bool false]) (by simp[results,yC,go_sem,n,o,k,q]) rfl ?_;exact⟨.mk 0 0 [] 0,false,p,L,_,_,_,_,_,_,rfl,i,j,zi _,⟨(by intro h;cases h),(by intro _ u r E;right;have:=Fz u;omega),m⟩,(by intro h;cases h)⟩
theorem PV (f d:Nat)(hd:d<=8)(g:Nat)(s:ByteArray)(p L:Nat)(w:World)(h:jm w g s p L)(o:p<=s.size)(y:s.size<=100000)(H:L<=64)(C:0<L)(m:s.size<=p):
 Calls Tryz.prog 101 #[.pointer (some ⟨g,0,none⟩),.int .i64 d] w fun e w'=>kb w g s f L p e w':=by
 have G:decide ((8:Int)<(d:Int))=false:=zz (by omega);have I:((L:Int)==0)=false:=zr.2 (by omega);have E:((p:Int)==(s.size:Int))=true:=xh.2 (by omega);have b:=za (sI.start h);generalize A:((w.alloc (.cells #[.pointer (some ⟨g,0,none⟩)] 148)).alloc (.cells #[.int .i64 0,.int .i64 0,.slice none 0 0,.int .i64 0] 64))=W at*;obtain⟨g0,g1,g2,f0,f1,f2,F⟩:=b.out.rd.cells;have D:W.cell? ⟨w.heap.size,0,none⟩=some (.pointer (some ⟨g,0,none⟩)):=b.out.box.cell 0;clear h;go_enter xX,xQ
 go_wp2_with fail
 go_quiet (fail)
 obtain⟨c,rfl⟩:∃c,c=nq:=⟨nq,rfl⟩
 have n:Hid (sI w g s p L (W.drewN c)):=za (b.out.below bM);obtain⟨B,n1,n2,z,m0,m1,m2,m3⟩:=aL b.out.res;go_wp2;obtain⟨j,k,q,u,l,x⟩:=n.out.ends (.int .i64 0) (.int .i64 0) (.slice none 0 0) (.int .i64 0);refine zp (v:= .tuple #[.agg #[.int .i64 0,.int .i64 0,.slice none 0 0,.int .i64 0],.bool false]) (by simp[results,yC,go_sem,q,u,l,x]) rfl ?_;exact⟨.mk 0 0 [] 0,false,p,L,_,_,_,_,_,_,rfl,j,k,zi _,⟨(by intro h;cases h),(by intro _ J r i;rw[BU f m]at i;cases i),o⟩,(by intro h;cases h)⟩
theorem FA :∀(f d:Nat),f+d=9->∀(g:Nat) (s:ByteArray) (p L:Nat) (w:World),jm w g s p L->p<=s.size->s.size<=100000->L<=64->
 Calls Tryz.prog 101 #[.pointer (some ⟨g,0,none⟩),.int .i64 d] w fun e w'=>kb w g s f L p e w'
 |0,d,hfd,g,s,p,L,w,h,k,b,c=>PT 0 d (by omega) rfl g s p L w h k b c trivial
 |f+1,d,hfd,g,s,p,L,w,h,k,b,c=>by
  have n:Hid (∀(g:Nat) (s:ByteArray) (p L:Nat) (w:World),jm w g s p L->p<=s.size->s.size<=100000->L<=64->
   Calls Tryz.prog 101 #[.pointer (some ⟨g,0,none⟩),.int .i64 ((d:Int)+1)] w fun e w'=>kb w g s f L p e w'):=za (fun g s p L w h k b c=>by
   have:=FA f (d+1) (by omega) g s p L w h k b c;rwa [show(((d+1:Nat)):Int)=(d:Int)+1 from by omega]at this)
  have hd:d<=8:=by omega
  by_cases u:L=0
  ·exact PU (f+1) d hd g s p L w h k b c u
  by_cases x:s.size<=p
  ·exact PV (f+1) d hd g s p L w h k b c (by omega) x
  have i:p<s.size:=by omega
  have j:0<L:=by omega
  by_cases o:s[p].toNat=117
  ·exact PD f d hd g s p L w h i b j c o
  by_cases m:s[p].toNat=98
  ·exact PA f d hd g s p L w h i b j c m
  by_cases r:s[p].toNat=115
  ·exact PC f d hd g s p L w h i b j c r
  by_cases l:s[p].toNat=91
  ·exact PQ f d hd n g s p L w h i b j c l
  by_cases q:s[p].toNat=123
  ·exact PR f d hd n g s p L w h i b j c q
  exact MB f d hd g s p L w h i b j c o m r l q
