/- hatchwayref24.Same. -/
import Derived.Test.YtdbmifjankgfpaaGreatDoorKA34
set_option linter.all false
set_option maxRecDepth 100000
set_option maxHeartbeats 1600000
open Go.Proofs.Tryz
namespace Go.Proofs.YtdbmifjankgfpaaGreatDoor
open Go.RowKit
theorem GG (a b:ByteArray)(x y:It)(B:Nat)(w:World)(p u q z o s:Value)(hx:dg w B x p u q)(k:dg w B y z o s)(m:B<=w.heap.size):
 Calls prog 44 #[.agg #[.string a,p,u,q],.agg #[.string b,z,o,s]] w fun e w'=>(∃r:Bool,e= .returned (.bool r)/\(r=true↔a=b/\x=y))/\Below w.heap.size w w':=by
 obtain⟨C,E,rfl,rfl,rfl,_⟩:=hx.open_;obtain⟨D,F,rfl,rfl,rfl,_⟩:=k.open_;obtain⟨W,n⟩:∃W,(w.alloc (.cells #[.string a,.string x.text,.bool x.list,.slice C x.sub.length E] 30)).alloc (.cells #[.string b,.string y.text,.bool y.list,.slice D y.sub.length F] 30)=W:=⟨_,rfl⟩
 have i:Below w.heap.size w W:=by rw[<-n];exact((zl _ w).alloc (zd _) _).alloc (by simp) _
 have G:=za (Na x B W _ _ _ (hx.below (i.mono m)) (zF m i.size) y _ _ _ (k.below (i.mono m)));have d:=za i;have j:=za n;clear hx k i n;rcases pZ a b with⟨c,I,J⟩|⟨c,I,J⟩
 ·have l:=za c;clear c;go_enter func44,ntmps44
  go_wp2_with fail
  rw[j.out];refine G.out.mono ?_;rintro e K ⟨⟨r,rfl,A⟩,H⟩;go_wp2;go_ret;exact⟨⟨r,rfl,A.trans ⟨fun h=>⟨l.out,h⟩,fun h=>h.2⟩⟩,d.out.trans (H.mono d.out.size)⟩
 have l:=za c;clear c;go_enter func44,ntmps44
 go_wp2;first|rw[j.out]|skip
 go_ret;exact⟨⟨false,rfl,⟨(by intro h;cases h),fun h=>absurd h.1 l.out⟩⟩,by first|exact d.out|(rw[<-j.out]at d;exact d.out)|exact bQ⟩
theorem GH (l:List Ms)(u v:Value)(S1 S:Nat->Prop)(R ae:Nat)(w:World)(hu:cd w S1 R l u)(I:cd w S ae l v):
 Calls prog 20 #[u,v] w fun e w'=>e= .returned (.bool true)/\Below w.heap.size w w':=by
 obtain⟨A,aa,rfl,oC,En,M⟩:=A7.reads (hu.fe (S1:=fun _=>True) (lo':=0) (fun _ _ _=>trivial) (yc _)|>.fe (S1:=(0<= ·)) (fun _ _ _=>yc _) (yc _));obtain⟨C,N,rfl,X,AH,K⟩:=A7.reads (I.fe (S1:=fun _=>True) (lo':=0) (fun _ _ _=>trivial) (yc _)|>.fe (S1:=(0<= ·)) (fun _ _ _=>yc _) (yc _));have Z:=za M;have Y:=za K;obtain⟨n,B⟩:∃n,l.length=n:=⟨_,rfl⟩
 rw[B]at oC X;rw[B];have HN:=za B;clear M K hu I B;go_enter func20,ntmps20
 go_wp2;go_loopw [5] (fun i wr=>∃k:Nat,i= .int .i64 k/\k<=n/\Below w.heap.size w wr) (fun i _=>n-(intOf i).toNat)
 case atStart=>exact⟨0,rfl,by omega,zl _ _⟩
 case round=>
  obtain⟨k,rfl,hk,d⟩:=hrel;by_cases W:k<n
  ·have L:k<l.length:=by rw[HN.out];exact W
   have nZ:(k:Int)<n:=by omega
   obtain⟨g,o,c0,c1,c2,c3,hA,_,m,p,z,s,hx⟩:=Z.out.at_ k L;obtain⟨h,j,d0,d1,d2,d3,hC,_,f0,f1,f2,f3,q⟩:=Y.out.at_ k L;subst hA hC;obtain⟨y,U⟩:∃y,l[k]=y:=⟨_,rfl⟩
   rw[U]at hx q;obtain⟨E,G,rfl,rfl,rfl,rfl,_⟩:=hx.open_;obtain⟨F,H,rfl,rfl,rfl,rfl,_⟩:=q.open_;simp only[zM]at m p z s f0 f1 f2 f3;have r:=lt_of_cell m;have x:=lt_of_cell f0;have D:=d.size;have J:Hid (∀V,Below wr.heap.size wr V->V.cell? ⟨g,o+k*4,none⟩=some (.string y.name)/\V.cell? ⟨g,o+k*4+1,none⟩=some (.string y.x.text)/\V.cell? ⟨g,o+k*4+2,none⟩=some (.bool y.x.list)/\V.cell? ⟨g,o+k*4+3,none⟩=some (.slice E y.x.sub.length G)/\
    V.cell? ⟨h,j+k*4,none⟩=some (.string y.name)/\V.cell? ⟨h,j+k*4+1,none⟩=some (.string y.x.text)/\V.cell? ⟨h,j+k*4+2,none⟩=some (.bool y.x.list)/\V.cell? ⟨h,j+k*4+3,none⟩=some (.slice F y.x.sub.length H)):=za (fun V c=>by
    have b:=d.trans (c.mono D);exact⟨(b.cell r).trans m,(b.cell r).trans p,(b.cell r).trans z,(b.cell r).trans s,(b.cell x).trans f0,(b.cell x).trans f1,(b.cell x).trans f2,(b.cell x).trans f3⟩)
   have ab:Hid (∀V,Below wr.heap.size wr V->Calls prog 44 #[.agg #[.string y.name,.string y.x.text,.bool y.x.list,.slice E y.x.sub.length G],.agg #[.string y.name,.string y.x.text,.bool y.x.list,.slice F y.x.sub.length H]] V fun e w'=>e= .returned (.bool true)/\Below V.heap.size V w'):=za (fun V c=>by
    have b:=d.trans (c.mono D);refine(GG y.name y.name y.x y.x w.heap.size V _ _ _ _ _ _ ((hx.2.2.AZ).below b) ((q.2.2.AZ).below b) b.size).mono ?_;rintro e w' ⟨⟨ad,rfl,O⟩,d⟩;obtain rfl:ad=true:=O.2 ⟨rfl,rfl⟩;exact⟨rfl,d⟩)
   have HB:=za d;clear hx q m p z s f0 f1 f2 f3 d;go_wp2_with fail
   refine jh (by kernel_rfl) (by kernel_rfl) ?_;refine aE (.slice (some ⟨g,o,none⟩) n aa) (by rfl) (fun _ _=>by first|rfl|go_simp) ?_;simp only[Act.put,zb,ze,zf];refine aE (.int .i64 k) (by rfl) (fun _ _=>by first|rfl|go_simp) ?_;simp only[Act.put,zb,ze,zf];refine aE (.pointer (some ⟨g,o+k*4,none⟩)) (by rfl) (fun _ _=>by first|rfl|go_simp) ?_;simp only[Act.put,zb,ze,zf];refine aE (.agg #[.string y.name,.string y.x.text,.bool y.x.list,.slice E y.x.sub.length G]) (by rfl) (fun V c=>by obtain⟨m,p,z,s,_⟩:=J.out V c;go_simp) ?_;simp only[Act.put,zb,ze,zf];refine aE (.slice (some ⟨h,j,none⟩) n N) (by rfl) (fun _ _=>by first|rfl|go_simp) ?_;simp only[Act.put,zb,ze,zf];refine aE (.int .i64 k) (by rfl) (fun _ _=>by first|rfl|go_simp) ?_;simp only[Act.put,zb,ze,zf];refine aE (.pointer (some ⟨h,j+k*4,none⟩)) (by rfl) (fun _ _=>by first|rfl|go_simp) ?_;simp only[Act.put,zb,ze,zf];refine aE (.agg #[.string y.name,.string y.x.text,.bool y.x.list,.slice F y.x.sub.length H]) (by rfl) (fun V c=>by obtain⟨_,_,_,_,f0,f1,f2,f3⟩:=J.out V c;go_simp) ?_;simp only[Act.put,zb,ze,zf];refine eK 44 _ (.bool true) (by rfl) (fun _=>by first|rfl|go_simp) (fun V c=>ab.out V c) ?_;simp only[Act.put,zb,ze,zf];refine aE (.bool false) (by rfl) (fun _ _=>by first|rfl|go_simp) ?_;simp only[Act.put,zb,ze,zf];refine xL ?_;intro V c;have aS:=HB.out.trans (c.mono D);go_wp2;go_roundw
   case rel=>exact⟨k+1,by go_num,by omega,aS⟩
   case measure=>simp[intOf];omega
  have nZ:¬(k:Int)<n:=by omega
  go_wp2;go_ret;exact⟨rfl,d⟩
