/- The example of registry, and of session. -/
import Derived.Test.YtpjgigllldipiaaGreatDoorKA40
set_option linter.all false
set_option maxRecDepth 100000
set_option maxHeartbeats 1600000
open Go.Proofs.Tryz
namespace Go.Proofs.YtpjgigllldipiaaGreatDoor
open Go.RowKit
def fj :aR:=⟨2,0,9,9,2,9⟩
def eS :bA:=⟨5,⟨#[112,105,110,103]⟩,⟨#[117,56]⟩⟩
def om :Ty:= .mk 1 1 [] 0
def kY :It:= .mk ⟨#[7]⟩ false []
theorem BR :om.may=true:=by simp[om,Ty.may,Ty.count,Ty.deep,Ty.right,aZ,dD,bL,fK]
theorem vL :cI eS.ty.data.toList=some om:=by
 have h:aK 8 eS.ty.data.toList=some (om,[]):=by rfl
 rw[vu h,BR,zl rfl]
theorem FT :eS.shape=om:=by unfold bA.shape;rw[vL];rfl
theorem FU :fj.right=true:=by decide
theorem C9 :oH fj [eS]=0:=by
 rw[rA FU (by simp)];have b:gd fj [] eS=0:=by
  unfold gd;rw[zj (by decide),zj (by simp),zj (by simp),vL,zj (by simp),zj (by simp[fj])]
 simp[iP,b]
theorem Qc :gE om kY 2 9=0:=by
 rw[lr];refine⟨?_, ?_⟩
 ·unfold eB;rw[BR];simp[om,kY,It.may,It.right,It.deep,It.count,cW,cC,aG,formed,It.cX,cO,nN,fY,ByteArray.size]
 rw[oF];simp[kY,It.may,It.right,It.deep,It.count,cW,cC,aG,formed,ByteArray.size]
theorem vM :kY.fA= [7]:=by
 simp[kY,It.fA,ByteArray.size]
theorem M0 :fp [eS] ⟨#[112,105,110,103]⟩=some eS:=by
 simp[fp,eS]
theorem FW :bD fj [eS] ⟨#[112,105,110,103]⟩ kY=(⟨5,⟨#[]⟩,⟨#[7]⟩⟩,0):=by
 have b:bQ fj om kY=(⟨#[7]⟩,0):=by
  unfold bQ;rw[zj (by simp[fj])];show(if gE om kY 2 9=0 then _ else _,gE om kY 2 9)=_
  rw[Qc,zl rfl,vM]
 unfold bD;rw[M0];simp only[FT,b];simp[fj,eS];rfl
theorem M3 (w:World)(B:Nat)(t:ByteArray)(l:Bool)(h:t.size<=9223372036854775807):bZ w B (.mk t l []) (.string t) (.bool l) (.slice none 0 0):=O5 w B t l h
theorem FX {c:aR}{l:List bA}(p:∀e∈l,pN e){nm:ByteArray}{x:It}(hx:x.count<=1000000)(r:x.fA.length<=1000000):(bD c l nm x).1.ok:=by
 by_cases i:(bD c l nm x).2=0
 ·obtain⟨e,o,b,q⟩:=mI i;have j:=p e (jX o).1;have h:(bQ c e.shape x).1.size<=9223372036854775807:=by
   by_cases k:c.fm=1
   ·unfold bQ at b⊢;rw[zl k]at b⊢;unfold mH at b⊢;by_cases d:iF e.shape x c.it=0
    ·rw[zl d];obtain⟨n,m,_⟩:=Bt d;have:=Km x e.shape (jv n).2.1 (qV m).2.2;simp only;rw[bH];omega
    rw[zj d];exact ym _
   rw[(qY k b (by omega)).2,bH];omega
  rw[q];split
  ·exact⟨by simp,by have:=j.name;simp only;omega,h⟩
  exact⟨j.id,by simp,h⟩
 rw[BC i];exact⟨by simp[nM],by simp[nM],by simp[nM]⟩
theorem Qd {d:Type}(b:Nx d)(x:jb)(s:ByteArray):(DW b x s).1.told=x.told+(DW b x s).2.1.length:=by
 by_cases c:x.fault=0
 ·rw[kE c]
 rw[jl c];simp
theorem I4 (c:aR)(l:List bA)(x:jb)(s:ByteArray):(DW (aY c l) x s).1.buf.size<=x.buf.size+s.size/\(DW (aY c l) x s).2.1.length<=x.buf.size+s.size:=by
 by_cases d:x.fault=0
 ·rw[kE d];have b:=ON c l (x.buf++s);have e:=Hs c l (x.buf++s);rw[bW]at b e;exact⟨e,b⟩
 rw[jl d];exact⟨by simp only;omega,by simp⟩
theorem FY (l:List Ms)(u v:Value)(S1 O:Nat->Prop)(qz R:Nat)(w:World)(hu:dM w S1 qz l u)(J:dM w O R l v):
 Calls prog 17 #[u,v] w fun e w'=>e= .returned (.bool true)/\Below w.heap.size w w':=by
 obtain⟨A,ab,rfl,qk,DL,N⟩:=wZ.reads (hu.gh (S1:=fun _=>True) (lo':=0) (fun _ _ _=>trivial) (ym _)|>.gh (S1:=(0<= ·)) (fun _ _ _=>ym _) (ym _));obtain⟨C,ad,rfl,Gv,wH,M⟩:=wZ.reads (J.gh (S1:=fun _=>True) (lo':=0) (fun _ _ _=>trivial) (ym _)|>.gh (S1:=(0<= ·)) (fun _ _ _=>ym _) (ym _));have X:=za N;have U:=za M;obtain⟨n,x⟩:∃n,l.length=n:=⟨_,rfl⟩
 rw[x]at qk Gv;rw[x];have HN:=za x;clear N M hu J x;go_enter func17,ntmps17
 go_wp2;go_loopw [5] (fun i wr=>∃k:Nat,i= .int .i64 k/\k<=n/\Below w.heap.size w wr) (fun i _=>n-(intOf i).toNat)
 case atStart=>exact⟨0,rfl,by omega,zq _ _⟩
 case round=>
  obtain⟨k,rfl,hk,d⟩:=hrel;by_cases aC:k<n
  ·have K:k<l.length:=by rw[HN.out];exact aC
   have Y:(k:Int)<n:=by omega
   obtain⟨g,o,c0,c1,c2,c3,W,_,m,B,s,D,hx⟩:=X.out.at_ k K;obtain⟨h,j,d0,d1,d2,d3,hC,_,f0,f1,f2,f3,z⟩:=U.out.at_ k K;subst W hC;obtain⟨y,S⟩:∃y,l[k]=y:=⟨_,rfl⟩
   rw[S]at hx z;obtain⟨I,E,rfl,rfl,rfl,rfl,_⟩:=hx.open_;obtain⟨F,G,rfl,rfl,rfl,rfl,_⟩:=z.open_;simp only[zT]at m B s D f0 f1 f2 f3;have p:=lt_of_cell m;have q:=lt_of_cell f0;have H:=d.size;have L:Hid (∀V,Below wr.heap.size wr V->V.cell? ⟨g,o+k*4,none⟩=some (.string y.name)/\V.cell? ⟨g,o+k*4+1,none⟩=some (.string y.x.text)/\V.cell? ⟨g,o+k*4+2,none⟩=some (.bool y.x.list)/\V.cell? ⟨g,o+k*4+3,none⟩=some (.slice I y.x.sub.length E)/\
    V.cell? ⟨h,j+k*4,none⟩=some (.string y.name)/\V.cell? ⟨h,j+k*4+1,none⟩=some (.string y.x.text)/\V.cell? ⟨h,j+k*4+2,none⟩=some (.bool y.x.list)/\V.cell? ⟨h,j+k*4+3,none⟩=some (.slice F y.x.sub.length G)):=za (fun V c=>by
    have b:=d.trans (c.mono H);exact⟨(b.cell p).trans m,(b.cell p).trans B,(b.cell p).trans s,(b.cell p).trans D,(b.cell q).trans f0,(b.cell q).trans f1,(b.cell q).trans f2,(b.cell q).trans f3⟩)
   have aa:Hid (∀V,Below wr.heap.size wr V->Calls prog 15 #[.agg #[.string y.name,.string y.x.text,.bool y.x.list,.slice I y.x.sub.length E],.agg #[.string y.name,.string y.x.text,.bool y.x.list,.slice F y.x.sub.length G]] V fun e w'=>e= .returned (.bool true)/\Below V.heap.size V w'):=za (fun V c=>by
    have b:=d.trans (c.mono H);refine(FK y.name y.name y.x y.x w.heap.size V _ _ _ _ _ _ ((hx.2.2.wY).below b) ((z.2.2.wY).below b) b.size).mono ?_;rintro e w' ⟨⟨r,rfl,hr⟩,d⟩;obtain rfl:r=true:=hr.2 ⟨rfl,rfl⟩;exact⟨rfl,d⟩)
   have HB:=za d;clear hx z m B s D f0 f1 f2 f3 d;go_wp2_with fail
   refine iH (by kernel_rfl) (by kernel_rfl) ?_;refine aD (.slice (some ⟨g,o,none⟩) n ab) (by rfl) (fun _ _=>by first|rfl|go_simp) ?_;simp only[Act.put,zb,ze,zg];refine aD (.int .i64 k) (by rfl) (fun _ _=>by first|rfl|go_simp) ?_;simp only[Act.put,zb,ze,zg];refine aD (.pointer (some ⟨g,o+k*4,none⟩)) (by rfl) (fun _ _=>by first|rfl|go_simp) ?_;simp only[Act.put,zb,ze,zg];refine aD (.agg #[.string y.name,.string y.x.text,.bool y.x.list,.slice I y.x.sub.length E]) (by rfl) (fun V c=>by obtain⟨m,B,s,D,_⟩:=L.out V c;go_simp) ?_;simp only[Act.put,zb,ze,zg];refine aD (.slice (some ⟨h,j,none⟩) n ad) (by rfl) (fun _ _=>by first|rfl|go_simp) ?_;simp only[Act.put,zb,ze,zg];refine aD (.int .i64 k) (by rfl) (fun _ _=>by first|rfl|go_simp) ?_;simp only[Act.put,zb,ze,zg];refine aD (.pointer (some ⟨h,j+k*4,none⟩)) (by rfl) (fun _ _=>by first|rfl|go_simp) ?_;simp only[Act.put,zb,ze,zg];refine aD (.agg #[.string y.name,.string y.x.text,.bool y.x.list,.slice F y.x.sub.length G]) (by rfl) (fun V c=>by obtain⟨_,_,_,_,f0,f1,f2,f3⟩:=L.out V c;go_simp) ?_;simp only[Act.put,zb,ze,zg];refine ep 15 _ (.bool true) (by rfl) (fun _=>by first|rfl|go_simp) (fun V c=>aa.out V c) ?_;simp only[Act.put,zb,ze,zg];refine aD (.bool false) (by rfl) (fun _ _=>by first|rfl|go_simp) ?_;simp only[Act.put,zb,ze,zg];refine xS ?_;intro V c;have Z:=HB.out.trans (c.mono H);go_wp2;go_roundw
   case rel=>exact⟨k+1,by go_num,by omega,Z⟩
   case measure=>simp[intOf];omega
  have Y:¬(k:Int)<n:=by omega
  go_wp2;go_ret;exact⟨rfl,d⟩
