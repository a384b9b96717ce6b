/- sha.mix: a block mixed into the state. -/
import Derived.Test.YtimoclkoflamkaaGreatDoorKA35
set_option linter.all false
set_option maxRecDepth 100000
set_option maxHeartbeats 4000000
open Go.Proofs.Tryz
namespace Go.Proofs.YtimoclkoflamkaaGreatDoor
open Go.RowKit Go.Shelf
attribute [local go_sem] Oper.semAt_some
def yG:=@eq_false
theorem XN (s:Sh)(hs:s.ok)(blk:ByteArray)(hb:blk.size=64)(w:World):
 Calls prog 226 #[kC s,.string blk] w fun e w'=>e= .returned (kC (qq vT s blk))/\ae [] w w':=by
 obtain⟨ar,hR⟩:∃ar,qq vT s blk=ar:=⟨_,rfl⟩
 have aX:Hid (ar=ui 8 s (fJ vT blk 64 s)):=za (by rw[<-hR];exact Ph s blk);rw[hR];clear hR;have HB:Hid (af (w.alloc (.cells #[.int .u32 s.a,.int .u32 s.b,.int .u32 s.c,.int .u32 s.d,.int .u32 s.e,.int .u32 s.f,.int .u32 s.g,.int .u32 s.h] 274)) w.heap.size 274 #[.int .u32 s.a,.int .u32 s.b,.int .u32 s.c,.int .u32 s.d,.int .u32 s.e,.int .u32 s.f,.int .u32 s.g,.int .u32 s.h]):=za (af.new w _ _);unfold kC;refine(Yt (n:=5)).1 ?_;refine callsIn_of_wp_marks func226 rfl trivial ?_ rfl;simp only[ntmps226,Zy,zx,zM,Nat.reduceAdd,Nat.reduceSub,Array.replicate_succ,Array.replicate_zero,List.push_toArray,List.append_toArray,yo,zT];gi_upto_region 2 with(fail)
 obtain⟨C,Y⟩:∃C,((w.alloc (.cells #[.int .u32 s.a,.int .u32 s.b,.int .u32 s.c,.int .u32 s.d,.int .u32 s.e,.int .u32 s.f,.int .u32 s.g,.int .u32 s.h] 274)).alloc (.cells #[.int .u32 0,.int .u32 0,.int .u32 0,.int .u32 0,.int .u32 0,.int .u32 0,.int .u32 0,.int .u32 0] 274)).alloc (.cells #[.func (.func 236) #[] #[]] 287)=C:=⟨_,rfl⟩
 have lJ:Hid (af C w.heap.size 274 #[.int .u32 s.a,.int .u32 s.b,.int .u32 s.c,.int .u32 s.d,.int .u32 s.e,.int .u32 s.f,.int .u32 s.g,.int .u32 s.h]):=za (by rw[<-Y];exact(HB.out.alloc _).alloc _);have aZ:Hid (af C (w.heap.size+1) 274 #[.int .u32 0,.int .u32 0,.int .u32 0,.int .u32 0,.int .u32 0,.int .u32 0,.int .u32 0,.int .u32 0]):=za (by
  rw[<-Y];refine af.alloc ?_ _;have:=af.new (w.alloc (.cells #[.int .u32 s.a,.int .u32 s.b,.int .u32 s.c,.int .u32 s.d,.int .u32 s.e,.int .u32 s.f,.int .u32 s.g,.int .u32 s.h] 274)) 274 #[.int .u32 0,.int .u32 0,.int .u32 0,.int .u32 0,.int .u32 0,.int .u32 0,.int .u32 0,.int .u32 0];rwa [zp]at this)
 have Xd:Hid (af C (w.heap.size+2) 287 #[.func (.func 236) #[] #[]]):=za (by
  rw[<-Y];have:=af.new ((w.alloc (.cells #[.int .u32 s.a,.int .u32 s.b,.int .u32 s.c,.int .u32 s.d,.int .u32 s.e,.int .u32 s.f,.int .u32 s.g,.int .u32 s.h] 274)).alloc (.cells #[.int .u32 0,.int .u32 0,.int .u32 0,.int .u32 0,.int .u32 0,.int .u32 0,.int .u32 0,.int .u32 0] 274)) 287 #[.func (.func 236) #[] #[]];simp only[zp]at this;exact this)
 have aO:Hid (ae [] w C):=za (by rw[<-Y];exact(((ae.refl [] w).alloc _).alloc _).alloc _);have E4:Hid (C.heap.size=w.heap.size+3):=za (by rw[<-Y];simp);rw[Y];clear Y HB;refine wpIn_wide.2 ?_;refine BQ (by kernel_rfl) (by kernel_rfl) (aiT s blk w.heap.size C.drew) ?start ?step ?done;case start=>exact⟨fun _=>undef,0,fun _=>0,rfl,MJ.start _ _ _ _ _⟩
 case step=>
  have aY:Hid (af C.drew w.heap.size 274 #[.int .u32 s.a,.int .u32 s.b,.int .u32 s.c,.int .u32 s.d,.int .u32 s.e,.int .u32 s.f,.int .u32 s.g,.int .u32 s.h]):=lJ;have uZ:Hid (w.heap.size<C.drew.heap.size):=za (by have:=E4.out;show w.heap.size<C.heap.size;omega);rintro listed a w' i hi ⟨x,m,q,rfl,y⟩ hr;obtain⟨rI,o,ho,G⟩:=ZL.1 hr;clear hr;obtain⟨j,c,h4⟩:∃j,j<8/\(i=2*j\/i=2*j+1\/i=16+j\/i=24+j):=by
   simp at hi;by_cases h:i<16
   ·exact⟨i/2,by omega,by omega⟩
   by_cases h:i<24
   ·exact⟨i-16,by omega,by omega⟩
   exact⟨i-24,by omega,by omega⟩
  have Z:j=0\/j=1\/j=2\/j=3\/j=4\/j=5\/j=6\/j=7:=by omega
  rcases h4 with rfl|rfl|rfl|rfl
  ·rcases Z with rfl|rfl|rfl|rfl|rfl|rfl|rfl|rfl;all_goals
    refine oG rfl rfl ?_;unfold ug;go_simp;refine⟨_,m,q, ?_,y.addr _ c⟩;rfl
  ·have R:=(y.bl.block _ uZ.out).trans aY.out;have c0:=af.cell R 0;have c1:=af.cell R 1;have c2:=af.cell R 2;have c3:=af.cell R 3;have c4:=af.cell R 4;have c5:=af.cell R 5;have c6:=af.cell R 6;have c7:=af.cell R 7;simp at c0 c1 c2 c3 c4 c5 c6 c7;rcases Z with rfl|rfl|rfl|rfl|rfl|rfl|rfl|rfl;all_goals
    obtain rfl:=xR ho;have hx:=y.ad _ c (G ⟨_,.data⟩ (by simp) rfl);simp only[Nat.reduceMul,Nat.reduceAdd]at hx;refine oG rfl rfl ?_;unfold ug;simp only[hx];go_simp;refine⟨_,m,q, ?_,y.load _ c⟩;simp[ug,Fi,hx,gV,Sh.list]
  ·rcases Z with rfl|rfl|rfl|rfl|rfl|rfl|rfl|rfl;all_goals
    refine oG rfl rfl ?_;unfold ug;go_simp;refine⟨_,m+1,_, ?_,y.alloc _ c (getD_both rI)⟩;rfl
  rcases Z with rfl|rfl|rfl|rfl|rfl|rfl|rfl|rfl;all_goals
   obtain rfl:=xR ho;obtain⟨hx,hq,aB⟩:=y.al _ c (G ⟨_,.data⟩ (by simp) rfl);have hv:=y.ld _ c (G ⟨_,.data⟩ (by simp) rfl);have hs:=za (y.store _ c (G ⟨_,.data⟩ (by simp) rfl));simp only[Nat.reduceMul,Nat.reduceAdd,show C.drew.heap.size=C.heap.size from rfl]at hx hv aB;obtain⟨v0,c0⟩:=(⟨_,aB.cell 0⟩:∃v0,w'.cell? ⟨_,0,none⟩=some v0)
   have f0:=aB.frozen 0;simp[gV,Sh.list]at hv;refine oG rfl rfl ?_;unfold ug;simp only[hx,hv];go_simp;refine⟨x,m,q, ?_,hs.out⟩;simp[ug,hx,hv]
 case done=>
  rintro listed a E G ⟨x,m,q,rfl,y⟩;obtain⟨p,hp⟩:∃p:Nat->Nat,p=fun j=>C.heap.size+q j:=⟨_,rfl⟩
  have H:∀j,j<8->x (6+j)= .pointer (some ⟨p j,0,none⟩)/\af E (p j) 22 #[gV (s.list.getD j 0)]/\C.heap.size<=p j/\p j<E.heap.size:=by
   intro j c;obtain⟨e1,e2,e3⟩:=y.al j c (G _ (by simp;omega));rw[zg (G _ (by simp;omega))]at e3;subst hp;exact⟨e1,e3,Nat.le_add_right _ _,e3.lt⟩
  have bX:∀i j,i<8->j<8->i≠j->p i≠p j:=by
   intro i j hi c UC e;subst hp;exact y.ne i j hi c (G _ (by simp;omega)) (G _ (by simp;omega)) UC (by simpa using e)
  have N:∀j,j<8->x (22+2*j)= .pointer (some ⟨w.heap.size,j,none⟩):=fun j c=>y.ad j c (G _ (by simp;omega))
  have O:∀j,j<8->x (23+2*j)=gV (s.list.getD j 0):=fun j c=>y.ld j c (G _ (by simp;omega))
  have hM:pe w w.heap.size p s s E:=⟨fun j c=>(H j c).2.1,(y.bl.block _ (by have:=E4.out;show _<C.heap.size;omega)).trans lJ.out,(y.bl.block _ (by have:=E4.out;show _<C.heap.size;omega)).trans aZ.out,(y.bl.block _ (by have:=E4.out;show _<C.heap.size;omega)).trans Xd.out,
   aO.out.trans ⟨y.bl.os,y.bl.tape,y.bl.output,y.bl.size,fun k hk _=>y.bl.block k hk⟩⟩
  have aH:∀j,j<8->w.heap.size+3<=p j:=fun j c=>by have:=(H j c).2.2.1;have:=E4.out;omega
  have IV:∀j,j<8->p j<E.heap.size:=fun j c=>(H j c).2.2.2
  have x6:=(H 0 (by omega)).1;have x7:=(H 1 (by omega)).1;have x8:=(H 2 (by omega)).1;have x9:=(H 3 (by omega)).1;have au:=(H 4 (by omega)).1;have aD:=(H 5 (by omega)).1;have ax:=(H 6 (by omega)).1;have aF:=(H 7 (by omega)).1;have aC:=N 0 (by omega);have aa:=N 1 (by omega);have ai:=N 2 (by omega);have aA:=N 3 (by omega);have aE:=N 4 (by omega);have az:=N 5 (by omega);have an:=N 6 (by omega);have ao:=N 7 (by omega);have ad:=O 0 (by omega);have al:=O 1 (by omega);have aq:=O 2 (by omega);have ak:=O 3 (by omega);have ah:=O 4 (by omega);have ab:=O 5 (by omega);have ay:=O 6 (by omega);have aj:=O 7 (by omega);simp only[Nat.reduceMul,Nat.reduceAdd,xa,gV,Sh.list,Z1,List.getD_cons_succ]at x6 x7 x8 x9 au aD ax aF aC aa ai aA aE az an ao ad al aq ak ah ab ay aj;unfold ug;simp only[x6,x7,x8,x9,au,aD,ax,aF,aC,aa,ai,aA,aE,az,an,ao,ad,al,aq,ak,ah,ab,ay,aj,kC];clear x6 x7 x8 x9 au aD ax aF aC aa ai aA aE az an ao ad al aq ak ah ab ay aj H N O y hp G;have HM:=za hM;have r:=za (And.intro aH (And.intro IV bX));clear hM aH IV bX;gi_wp2_with fail
  refine⟨trivial,(Yt.2 (SR blk _)).mono ?_⟩;rintro e w2 ⟨rfl,rfl⟩;gi_wp2_with fail
  obtain⟨K,mS⟩:∃K,E.alloc (.cells #[.string blk] 9)=K:=⟨_,rfl⟩
  have cC:K.heap.size=E.heap.size+1:=by rw[<-mS];simp
  have aP:K.cell? ⟨E.heap.size,0,none⟩=some (.string blk):=by rw[<-mS];exact(af.new E 9 #[.string blk]).cell 0
  have sq:Hid (pe w w.heap.size p s s K):=za (HM.out.ah (B:=E.heap.size) (by rw[<-mS];exact(zi _ E).alloc (ze _) _) r.out.2.1 (by have:=HM.out.fn.lt;omega) HM.out.only.size);rw[mS];have mP:=HM.out.fn.lt;have aJ:∀j,j<8->p j<K.heap.size:=fun j c=>by have:=r.out.2.1 j c;omega
  have Xe:=za aJ;clear mS aJ;refine AN rfl (by omega) (gf:=244) (lb:= #[.pointer (some ⟨E.heap.size,0,none⟩)]) rfl trivial (enters_of func244 (by kernel_rfl) rfl)
   (KE _ blk hb K E.heap.size (boxes p) aP (by omega) (fun h=>by obtain⟨j,c,e⟩:=lz h;have:=r.out.2.1 j c;omega) (fun i hi=>by obtain⟨j,c,e⟩:=lz hi;have:=Xe.out j c;omega))
   (fun i hi=>by obtain⟨j,c,e⟩:=lz hi;have:=Xe.out j c;omega) (fun _=>rfl)
   (fun pre W=>pe w w.heap.size p s (fJ vT blk pre.length s) W/\E.heap.size<W.heap.size) ?hI ⟨sq.out,by show E.heap.size<K.heap.size;omega⟩
   (fun x=>{tmps:= #[.agg #[.int .u32 s.a,.int .u32 s.b,.int .u32 s.c,.int .u32 s.d,.int .u32 s.e,.int .u32 s.f,.int .u32 s.g,.int .u32 s.h],.string blk,.pointer (some ⟨w.heap.size,0,none⟩),undef,.pointer (some ⟨w.heap.size+1,0,none⟩),.pointer (some ⟨w.heap.size+1+1,0,none⟩),.pointer (some ⟨p 0,0,none⟩),.pointer (some ⟨p 1,0,none⟩),.pointer (some ⟨p 2,0,none⟩),.pointer (some ⟨p 3,0,none⟩),.pointer (some ⟨p 4,0,none⟩),.pointer (some ⟨p 5,0,none⟩),.pointer (some ⟨p 6,0,none⟩),.pointer (some ⟨p 7,0,none⟩),.int .i64 x.1,.int .u32 x.2,undef,undef,undef,undef,undef,undef,.pointer (some ⟨w.heap.size,0,none⟩),.int .u32 s.a,.pointer (some ⟨w.heap.size,1,none⟩),.int .u32 s.b,.pointer (some ⟨w.heap.size,2,none⟩),.int .u32 s.c,.pointer (some ⟨w.heap.size,3,none⟩),.int .u32 s.d,.pointer (some ⟨w.heap.size,4,none⟩),.int .u32 s.e,.pointer (some ⟨w.heap.size,5,none⟩),.int .u32 s.f,.pointer (some ⟨w.heap.size,6,none⟩),.int .u32 s.g,.pointer (some ⟨w.heap.size,7,none⟩),.int .u32 s.h,.string blk,.func (.func 244) #[] #[.pointer (some ⟨E.heap.size,0,none⟩)],.int .i64 x.1,.int .u32 x.2,undef,undef,undef,undef,undef,undef,undef,undef,undef,undef,undef,undef,undef,undef,undef,undef,undef,undef,undef,undef,undef,undef,undef,undef,undef,undef,undef,undef,undef,undef,undef,undef,undef,undef,undef,undef,undef,undef,undef,undef,undef,undef,undef,undef,undef,undef,undef,undef,undef,undef,undef,undef,undef,undef,undef,undef,undef,undef,undef,undef,undef,undef,undef,undef,undef,undef,undef,undef],defers:= []}) ?assign ?body ?dn
  case hI=>
   rintro pre A B ⟨h,hl⟩ rX;have:=rX.size;exact⟨h.ah (B:=K.heap.size) rX Xe.out (by omega) (by omega),by omega⟩
  case assign=>
   intro l x W bI hK;simp only[Wb];gi_wp2
   exact hK
  case body=>
   rintro l pre x W hl ⟨d,dZ⟩ Ua;obtain⟨hk,rfl⟩:=KG Ua;obtain⟨k,IG⟩:∃k,pre.length=k:=⟨_,rfl⟩
   have aQ:=za IG;rw[IG]at d hk Ua⊢;have mQ:Hid (fJ vT blk (k+1) s=DF (vT.getD k 0) (mD blk k) (fJ vT blk k s)):=za rfl;have Iz:=ts vT blk k hs;obtain⟨t,ht⟩:∃t,fJ vT blk k s=t:=⟨_,rfl⟩
   rw[ht]at d mQ Iz;obtain⟨ta,tb,tc,td,te,tf,tg,th⟩:=Iz;have c6:W.cell? ⟨p 0,0,none⟩=some (.int .u32 t.a):=(d.box 0 (by omega)).cell 0;have c7:W.cell? ⟨p 1,0,none⟩=some (.int .u32 t.b):=(d.box 1 (by omega)).cell 0;have c8:W.cell? ⟨p 2,0,none⟩=some (.int .u32 t.c):=(d.box 2 (by omega)).cell 0;have c9:W.cell? ⟨p 3,0,none⟩=some (.int .u32 t.d):=(d.box 3 (by omega)).cell 0;have aW:W.cell? ⟨p 4,0,none⟩=some (.int .u32 t.e):=(d.box 4 (by omega)).cell 0;have aR:W.cell? ⟨p 5,0,none⟩=some (.int .u32 t.f):=(d.box 5 (by omega)).cell 0;have a6:W.cell? ⟨p 6,0,none⟩=some (.int .u32 t.g):=(d.box 6 (by omega)).cell 0;have a1:W.cell? ⟨p 7,0,none⟩=some (.int .u32 t.h):=(d.box 7 (by omega)).cell 0;have f6:=(d.box 0 (by omega)).frozen 0;have f7:=(d.box 1 (by omega)).frozen 0;have f8:=(d.box 2 (by omega)).frozen 0;have f9:=(d.box 3 (by omega)).frozen 0;have a8:=(d.box 4 (by omega)).frozen 0;have bt:=(d.box 5 (by omega)).frozen 0;have bj:=(d.box 6 (by omega)).frozen 0;have bC:=(d.box 7 (by omega)).frozen 0;have cf:W.cell? ⟨w.heap.size+1+1,0,none⟩=some (.func (.func 236) #[] #[]):=d.fn.cell 0;have TE:=za d;have aL:=za (Hu t.e t.f t.g te tf tg);have aI:=za (Pg t.a t.b t.c ta tb tc);have aN:=za (fun w=>aaI k w hk);have cr:=za (fun w=>abh t.e w te);have dt:=za (fun w=>abi t.a w ta);clear ht d IG Ua;generalize mD blk k=wk at*;generalize vT.getD k 0=kc at*;gi_wp2
   rw[aL.out,aI.out];have TK:Hid (DF kc wk t=⟨(((t.h+Sg1 t.e+kc+wk+FI t.e t.f t.g)%4294967296)+((Sg0 t.a+vQ t.a t.b t.c)%4294967296))%4294967296,t.a,t.b,t.c,(t.d+(t.h+Sg1 t.e+kc+wk+FI t.e t.f t.g)%4294967296)%4294967296,t.e,t.f,t.g⟩):=za rfl;clear aL aI;generalize FI t.e t.f t.g=cv at*;generalize vQ t.a t.b t.c=mv at*;generalize Sg1 t.e=g1 at*;generalize Sg0 t.a=g0 at*;refine kJ l (by kernel_rfl) (by kernel_rfl) (by kernel_rfl) ?_;repeat(go_big_quiet_step (first|(with_reducible exact Calls.fe (cr.out _))|(with_reducible exact Calls.quiet_of (aN.out _))))
   refine xr ?_;intro nq;obtain⟨X,Ny⟩:∃X,(t.h+g1+kc+wk+cv)%4294967296=X:=⟨_,rfl⟩
   have aM:Hid ((((t.h:Int)+g1+kc+wk)%4294967296+cv)%4294967296=(X:Int)):=za (by omega);have IV:X<4294967296:=by omega
   rw[Ny]at TK;clear Ny;rw[aM.out];clear aM aN cr;gi_wp2_with fail
   refine⟨trivial,(CallsIn.inRound l (Yt.2 (dt.out _))).mono ?_⟩;rintro e w' ⟨rfl,rfl⟩;have bk:(p 0=p 1)=False:=yG (r.out.2.2 0 1 (by omega) (by omega) (by omega));have bp:(p 0=p 2)=False:=yG (r.out.2.2 0 2 (by omega) (by omega) (by omega));have bz:(p 0=p 3)=False:=yG (r.out.2.2 0 3 (by omega) (by omega) (by omega));have bf:(p 0=p 4)=False:=yG (r.out.2.2 0 4 (by omega) (by omega) (by omega));have bs:(p 0=p 5)=False:=yG (r.out.2.2 0 5 (by omega) (by omega) (by omega));have bG:(p 0=p 6)=False:=yG (r.out.2.2 0 6 (by omega) (by omega) (by omega));have bh:(p 0=p 7)=False:=yG (r.out.2.2 0 7 (by omega) (by omega) (by omega));have bo:(p 1=p 2)=False:=yG (r.out.2.2 1 2 (by omega) (by omega) (by omega));have a':(p 1=p 3)=False:=yG (r.out.2.2 1 3 (by omega) (by omega) (by omega));have bl:(p 1=p 4)=False:=yG (r.out.2.2 1 4 (by omega) (by omega) (by omega));have bH:(p 1=p 5)=False:=yG (r.out.2.2 1 5 (by omega) (by omega) (by omega));have bB:(p 1=p 6)=False:=yG (r.out.2.2 1 6 (by omega) (by omega) (by omega));have bw:(p 1=p 7)=False:=yG (r.out.2.2 1 7 (by omega) (by omega) (by omega));have bg:(p 2=p 3)=False:=yG (r.out.2.2 2 3 (by omega) (by omega) (by omega));have bx:(p 2=p 4)=False:=yG (r.out.2.2 2 4 (by omega) (by omega) (by omega));have bm:(p 2=p 5)=False:=yG (r.out.2.2 2 5 (by omega) (by omega) (by omega));have bb:(p 2=p 6)=False:=yG (r.out.2.2 2 6 (by omega) (by omega) (by omega));have bu:(p 2=p 7)=False:=yG (r.out.2.2 2 7 (by omega) (by omega) (by omega))
   have bE:(p 3=p 4)=False:=yG (r.out.2.2 3 4 (by omega) (by omega) (by omega));have bd:(p 3=p 5)=False:=yG (r.out.2.2 3 5 (by omega) (by omega) (by omega));have bA:(p 3=p 6)=False:=yG (r.out.2.2 3 6 (by omega) (by omega) (by omega));have bF:(p 3=p 7)=False:=yG (r.out.2.2 3 7 (by omega) (by omega) (by omega));have a7:(p 4=p 5)=False:=yG (r.out.2.2 4 5 (by omega) (by omega) (by omega));have ba:(p 4=p 6)=False:=yG (r.out.2.2 4 6 (by omega) (by omega) (by omega));have bD:(p 4=p 7)=False:=yG (r.out.2.2 4 7 (by omega) (by omega) (by omega));have bq:(p 5=p 6)=False:=yG (r.out.2.2 5 6 (by omega) (by omega) (by omega));have bc:(p 5=p 7)=False:=yG (r.out.2.2 5 7 (by omega) (by omega) (by omega));have bn:(p 6=p 7)=False:=yG (r.out.2.2 6 7 (by omega) (by omega) (by omega));obtain⟨av,aK⟩:∃av,(X+(g0+mv)%4294967296)%4294967296=av:=⟨_,rfl⟩
   obtain⟨ev,aG⟩:∃ev,(t.d+X)%4294967296=ev:=⟨_,rfl⟩
   have aS:Hid (((X:Int)+((g0:Int)+mv))%4294967296=(av:Int)):=za (by omega);have aU:Hid (((t.d:Int)+X)%4294967296=(ev:Int)):=za (by omega);rw[aK,aG]at TK;clear aK aG;gi_wp2
   rw[aS.out,aU.out,aQ.out,mQ.out,TK.out];have hq:pe w w.heap.size p s t (W.drewN nq):=TE.out.ah (B:=W.heap.size) ((zi _ W).bI nq) (fun j c=>by have:=Xe.out j c;omega) (by omega) (by omega);exact⟨((ae.refl (boxes p) W).drewN nq).trans (uh (W.drewN nq) p ⟨av,t.a,t.b,t.c,ev,t.e,t.f,t.g⟩),hq.put _ (fun j c=>by have:=r.out.1 j c;omega) (fun j c=>by have:=r.out.1 j c;omega) r.out.2.2⟩
  case dn=>
   rintro D W hD ⟨d,dZ⟩ hK;have MX:(cU blk 64).length=64:=by simp[cU]
   rw[MX]at d;have aw:=aX;have Iz:=ts vT blk 64 hs;obtain⟨t,ht⟩:∃t,fJ vT blk 64 s=t:=⟨_,rfl⟩
   rw[ht]at d aw Iz;obtain⟨ta,tb,tc,td,te,tf,tg,th⟩:=Iz;obtain⟨sa,sb,sc,sd,se,sf,sg,sh⟩:=hs;have c6:W.cell? ⟨p 0,0,none⟩=some (.int .u32 t.a):=(d.box 0 (by omega)).cell 0;have c7:W.cell? ⟨p 1,0,none⟩=some (.int .u32 t.b):=(d.box 1 (by omega)).cell 0;have c8:W.cell? ⟨p 2,0,none⟩=some (.int .u32 t.c):=(d.box 2 (by omega)).cell 0;have c9:W.cell? ⟨p 3,0,none⟩=some (.int .u32 t.d):=(d.box 3 (by omega)).cell 0;have aW:W.cell? ⟨p 4,0,none⟩=some (.int .u32 t.e):=(d.box 4 (by omega)).cell 0;have aR:W.cell? ⟨p 5,0,none⟩=some (.int .u32 t.f):=(d.box 5 (by omega)).cell 0;have a6:W.cell? ⟨p 6,0,none⟩=some (.int .u32 t.g):=(d.box 6 (by omega)).cell 0;have a1:W.cell? ⟨p 7,0,none⟩=some (.int .u32 t.h):=(d.box 7 (by omega)).cell 0;have TE:=za d;have aT:=za hK;have I:Hid (w.heap.size+1<D):=za (by omega);clear d ht hK;gi_wp2
   gi_loopw [98] (fun i wr=>jU w w.heap.size D s t i wr) (fun i _=>8-(intOf i).toNat)
   case atStart=>exact⟨0,by omega,rfl,TE.out.sta,TE.out.res,TE.out.only,aT.out⟩
   case round=>
    obtain⟨k,hk,rfl,b,z,kM,ag⟩:=hrel.ex;have L:=za z;have J:=za kM;have M:=za ag;by_cases br:k<8
    ·clear z kM ag;have Z:k=0\/k=1\/k=2\/k=3\/k=4\/k=5\/k=6\/k=7:=by omega
     rcases Z with rfl|rfl|rfl|rfl|rfl|rfl|rfl|rfl
     ·have U:wr.cell? ⟨w.heap.size,0,none⟩=some (.int .u32 s.a):=b.cell 0;have S:=b.frozen 0;have hi:∀w',(Instr.index 274 (.agg #[.int .u32 t.a,.int .u32 t.b,.int .u32 t.c,.int .u32 t.d,.int .u32 t.e,.int .u32 t.f,.int .u32 t.g,.int .u32 t.h]) (.int .i64 0)).run prog w'= .ok (.int .u32 t.a) w':=fun w'=>ma t w' 0 (.int .u32 t.a) rfl
      have F:=za (b.set 0 (.int .u32 ((s.a+t.a)%4294967296:Nat)));clear b;gi_wp2
      go_roundw
      case rel=>exact jU.next F.out L.out J.out M.out I.out (by omega) (by omega) rfl (by simp)
      case measure=>simp[intOf]
     ·have U:wr.cell? ⟨w.heap.size,1,none⟩=some (.int .u32 s.b):=b.cell 1;have S:=b.frozen 1;have hi:∀w',(Instr.index 274 (.agg #[.int .u32 t.a,.int .u32 t.b,.int .u32 t.c,.int .u32 t.d,.int .u32 t.e,.int .u32 t.f,.int .u32 t.g,.int .u32 t.h]) (.int .i64 1)).run prog w'= .ok (.int .u32 t.b) w':=fun w'=>ma t w' 1 (.int .u32 t.b) rfl
      have F:=za (b.set 1 (.int .u32 ((s.b+t.b)%4294967296:Nat)));clear b;gi_wp2
      go_roundw
      case rel=>exact jU.next F.out L.out J.out M.out I.out (by omega) (by omega) rfl (by simp)
      case measure=>simp[intOf]
     ·have U:wr.cell? ⟨w.heap.size,2,none⟩=some (.int .u32 s.c):=b.cell 2;have S:=b.frozen 2;have hi:∀w',(Instr.index 274 (.agg #[.int .u32 t.a,.int .u32 t.b,.int .u32 t.c,.int .u32 t.d,.int .u32 t.e,.int .u32 t.f,.int .u32 t.g,.int .u32 t.h]) (.int .i64 2)).run prog w'= .ok (.int .u32 t.c) w':=fun w'=>ma t w' 2 (.int .u32 t.c) rfl
      have F:=za (b.set 2 (.int .u32 ((s.c+t.c)%4294967296:Nat)));clear b;gi_wp2
      go_roundw
      case rel=>exact jU.next F.out L.out J.out M.out I.out (by omega) (by omega) rfl (by simp)
      case measure=>simp[intOf]
     ·have U:wr.cell? ⟨w.heap.size,3,none⟩=some (.int .u32 s.d):=b.cell 3;have S:=b.frozen 3;have hi:∀w',(Instr.index 274 (.agg #[.int .u32 t.a,.int .u32 t.b,.int .u32 t.c,.int .u32 t.d,.int .u32 t.e,.int .u32 t.f,.int .u32 t.g,.int .u32 t.h]) (.int .i64 3)).run prog w'= .ok (.int .u32 t.d) w':=fun w'=>ma t w' 3 (.int .u32 t.d) rfl
      have F:=za (b.set 3 (.int .u32 ((s.d+t.d)%4294967296:Nat)));clear b;gi_wp2
      go_roundw
      case rel=>exact jU.next F.out L.out J.out M.out I.out (by omega) (by omega) rfl (by simp)
      case measure=>simp[intOf]
     ·have U:wr.cell? ⟨w.heap.size,4,none⟩=some (.int .u32 s.e):=b.cell 4;have S:=b.frozen 4;have hi:∀w',(Instr.index 274 (.agg #[.int .u32 t.a,.int .u32 t.b,.int .u32 t.c,.int .u32 t.d,.int .u32 t.e,.int .u32 t.f,.int .u32 t.g,.int .u32 t.h]) (.int .i64 4)).run prog w'= .ok (.int .u32 t.e) w':=fun w'=>ma t w' 4 (.int .u32 t.e) rfl
      have F:=za (b.set 4 (.int .u32 ((s.e+t.e)%4294967296:Nat)));clear b;gi_wp2
      go_roundw
      case rel=>exact jU.next F.out L.out J.out M.out I.out (by omega) (by omega) rfl (by simp)
      case measure=>simp[intOf]
     ·have U:wr.cell? ⟨w.heap.size,5,none⟩=some (.int .u32 s.f):=b.cell 5;have S:=b.frozen 5;have hi:∀w',(Instr.index 274 (.agg #[.int .u32 t.a,.int .u32 t.b,.int .u32 t.c,.int .u32 t.d,.int .u32 t.e,.int .u32 t.f,.int .u32 t.g,.int .u32 t.h]) (.int .i64 5)).run prog w'= .ok (.int .u32 t.f) w':=fun w'=>ma t w' 5 (.int .u32 t.f) rfl
      have F:=za (b.set 5 (.int .u32 ((s.f+t.f)%4294967296:Nat)));clear b;gi_wp2
      go_roundw
      case rel=>exact jU.next F.out L.out J.out M.out I.out (by omega) (by omega) rfl (by simp)
      case measure=>simp[intOf]
     ·have U:wr.cell? ⟨w.heap.size,6,none⟩=some (.int .u32 s.g):=b.cell 6;have S:=b.frozen 6;have hi:∀w',(Instr.index 274 (.agg #[.int .u32 t.a,.int .u32 t.b,.int .u32 t.c,.int .u32 t.d,.int .u32 t.e,.int .u32 t.f,.int .u32 t.g,.int .u32 t.h]) (.int .i64 6)).run prog w'= .ok (.int .u32 t.g) w':=fun w'=>ma t w' 6 (.int .u32 t.g) rfl
      have F:=za (b.set 6 (.int .u32 ((s.g+t.g)%4294967296:Nat)));clear b;gi_wp2
      go_roundw
      case rel=>exact jU.next F.out L.out J.out M.out I.out (by omega) (by omega) rfl (by simp)
      case measure=>simp[intOf]
     have U:wr.cell? ⟨w.heap.size,7,none⟩=some (.int .u32 s.h):=b.cell 7;have S:=b.frozen 7;have hi:∀w',(Instr.index 274 (.agg #[.int .u32 t.a,.int .u32 t.b,.int .u32 t.c,.int .u32 t.d,.int .u32 t.e,.int .u32 t.f,.int .u32 t.g,.int .u32 t.h]) (.int .i64 7)).run prog w'= .ok (.int .u32 t.h) w':=fun w'=>ma t w' 7 (.int .u32 t.h) rfl
     have F:=za (b.set 7 (.int .u32 ((s.h+t.h)%4294967296:Nat)));clear b;gi_wp2
     go_roundw
     case rel=>exact jU.next F.out L.out J.out M.out I.out (by omega) (by omega) rfl (by simp)
     case measure=>simp[intOf]
    obtain rfl:k=8:=by omega
    obtain⟨u,hu⟩:∃u,ui 8 s t=u:=⟨_,rfl⟩
    rw[hu]at b aw;clear hu;have U:wr.cell? ⟨w.heap.size,0,none⟩=some (.int .u32 u.a):=b.cell 0;have S:wr.cell? ⟨w.heap.size,1,none⟩=some (.int .u32 u.b):=b.cell 1;have q2:wr.cell? ⟨w.heap.size,2,none⟩=some (.int .u32 u.c):=b.cell 2;have q3:wr.cell? ⟨w.heap.size,3,none⟩=some (.int .u32 u.d):=b.cell 3;have q4:wr.cell? ⟨w.heap.size,4,none⟩=some (.int .u32 u.e):=b.cell 4;have q5:wr.cell? ⟨w.heap.size,5,none⟩=some (.int .u32 u.f):=b.cell 5;have q6:wr.cell? ⟨w.heap.size,6,none⟩=some (.int .u32 u.g):=b.cell 6;have q7:wr.cell? ⟨w.heap.size,7,none⟩=some (.int .u32 u.h):=b.cell 7;have r0:=z.cell 0;have r1:=z.cell 1;have r2:=z.cell 2;have r3:=z.cell 3;have r4:=z.cell 4;have r5:=z.cell 5;have r6:=z.cell 6;have r7:=z.cell 7;simp at r0 r1 r2 r3 r4 r5 r6 r7;have f0:=z.frozen 0;have f1:=z.frozen 1;have f2:=z.frozen 2;have f3:=z.frozen 3;have f4:=z.frozen 4;have f5:=z.frozen 5;have f6:=z.frozen 6;have f7:=z.frozen 7;clear b z kM ag;gi_wp2
    have WM:(nW wr (w.heap.size+1) u).heap[D]?=some (.deferred (some [])):=(Hv wr _ u D (by have:=I.out;omega)).trans M.out;have mc:=KH u L.out;have aV:=uj u J.out (show w.heap.size<=w.heap.size+1 by omega);have Y4:=mc.only (iR _ D (.deferred none)) (by have:=I.out;simp;omega);have Y5:=aV.trans' (iR _ D (.deferred none)) (fun i hi=> .inr (by have:=I.out;simp at hi;omega));unfold nW at WM Y4 Y5;refine⟨by simp,.inl ⟨_,_,rfl,run_takeDeferred WM, ?_⟩⟩;refine⟨_,abj u (g:=w.heap.size+1) rfl Y4, ?_,Y5⟩;rw[aw.out];rfl
