/- WholeChunks: for every input the law returns true; each argument reads afterwards as before. No condition. -/
import Derived.Test.YtdbmifjankgfpaaGreatDoorKA42
import Derived.Test.YtdbmifjankgfpaaGreatDoorTie
import Derived.Test.YtdbmifjankgfpaaGreatDoorCards
import Derived.Lay
set_option linter.all false
set_option maxRecDepth 100000
open Go.Proofs.Tryz
namespace Go.Proofs.YtdbmifjankgfpaaGreatDoor.wholeChunks
open Go.ChangeShapes Go.WideShapes Go.ChangeAt Go.RowKit Go.Proofs.YtdbmifjankgfpaaGreatDoor
open Go.ChangeMaps (open_string shut_string)
def xN:=@trodAll_cons_mk
def Zx:=@trodAll_cons
theorem own :ownKnob prog.godebug=none:=by kernel_rfl
theorem laid :laidOutB prog=true:=by kernel_rfl
theorem lifted (os:Os)(started:os.Started)(H:Type)(enc:TypeId×Value->H):
 ReturnsInHanded {} checked os 4 .any (fun w args=>(Rows.wholeChunksSpec.pre enc prog f4 [] false w args/\laidMetH prog Rows.wholeChunksRow.laid w)/\sizedMet enc prog f4 (OpenSpec.ofChange Rows.wholeChunksSpec) false w args) (Rows.wholeChunksSpec.post enc prog f4 false true false false):=by
 refine returnsInHanded_of_change_and (C:=checked) (X:=fun w _=>laidMetH prog Rows.wholeChunksRow.laid w) (fun _ _ _ J h=>h.of_heap J) own started (by kernel_rfl) func4
  (ChangeSpec.witness_shaped (enc:=enc) (C:=checked) (os:=os) (X:=fun w _=>laidMetH prog Rows.wholeChunksRow.laid w) false (World.laidAll prog os Rows.wholeChunksRow.laid) #[.agg #[.int .i64 0,.int .u32 0,.int .i64 0,.int .i64 0,.int .i64 0,.int .i64 0],.slice none 0 0,.string ByteArray.empty,.slice none 0 0,.slice none 0 0] 8 (World.laidAll_os _ _ _)
   (World.shaped_of_ZipB (by kernel_rfl) (by kernel_rfl)) (by kernel_rfl) (by kernel_rfl) (by kernel_rfl)
   (by rw[ZZ _ _ _ (by kernel_rfl)];exact laidMet_laidAll _ (by kernel_rfl) (by kernel_rfl))) ?_
 intro W base args I gs ar B A _ _ hL _;have d:∀(j:Nat) t v,f4.params[j]?=some t->args[j]?=some v->Value.okWide prog W .any base t v:=B;have u:=A;obtain⟨p,q,y,hV,rfl,ae,tT⟩:=A;have z:DataW.TrodAll enc prog W 0 (fun _=>true) true f4.params.toList args.toList I p:=y;rw[params4]at z d;obtain⟨v0,ao,d0,ak,p0,q0,aj,rfl,rfl,m,r0⟩:=Zx z;obtain⟨s,aq,d1,ai,L,q1,rfl,rfl,rfl,o,r1⟩:=Zx r0;obtain⟨v2,an,d2,ag,p2,q2,rfl,rfl,rfl,O,r2⟩:=Zx r1;obtain⟨v3,ah,d3,al,R,q3,rfl,rfl,rfl,k,F⟩:=Zx r2;obtain⟨v4,au,d4,af,K,q4,rfl,rfl,rfl,i,Z⟩:=Zx F;obtain⟨rfl,rfl,rfl⟩:=trodAll_nil Z;obtain rfl:args= #[v0,s,v2,v3,v4]:=by cases args;simp_all
 obtain⟨rfl,rfl⟩:=trodVars_none hV;have rh:∀x∈p0,x.block<W.heap.size:=fun x hx=>by obtain⟨c,b⟩:=m;exact DataW.trod_lt c _ _ _ b x hx
 obtain⟨M,rfl,ab⟩:=M0 (d 0 24 v0 rfl rfl) m;have GU:∀x∈L,x.block<W.heap.size:=fun x hx=>by obtain⟨c,b⟩:=o;exact DataW.trod_lt c _ _ _ b x hx
 obtain⟨l1,u1,l,ad⟩:=JK (d 1 25 s rfl rfl) o;replace l:=l.symm;subst l;obtain⟨a2,rfl,rfl,rfl,D⟩:=open_string zG (d 2 9 v2 rfl rfl) O;have S:∀x∈R,x.block<W.heap.size:=fun x hx=>by obtain⟨c,b⟩:=k;exact DataW.trod_lt c _ _ _ b x hx
 obtain⟨N,U,n,aa⟩:=CA (d 3 31 v3 rfl rfl) k;replace n:=n.symm;subst n;have RH:∀x∈K,x.block<W.heap.size:=fun x hx=>by obtain⟨c,b⟩:=i;exact DataW.trod_lt c _ _ _ b x hx
 obtain⟨G,u4,r,Y⟩:=CA (d 4 31 v4 rfl rfl) i;replace r:=r.symm;subst r;clear y B;simp only[yO]at u;refine(Bm M l1 u1 a2 N U G u4 W ab ad D aa Y (Lh hL)).mono fun e W' ⟨E,bel⟩=> ?_
 subst E;exact⟨_,rfl,_,_,_,[],_,[],u,trodAll_mk1 (shut_bool underlying4 _),(xN (Below.trod laid (by kernel_rfl) (ye (by kernel_rfl)) m bel rh) (xN (Below.trod laid (by kernel_rfl) (ye (by kernel_rfl)) o bel GU) (xN (shut_string zG D) (xN (Below.trod laid (by kernel_rfl) (ye (by kernel_rfl)) k bel S) (xN (Below.trod laid (by kernel_rfl) (ye (by kernel_rfl)) i bel RH) trodAll_mk0))))),rfl,bel.frame _,fun h=>by cases h⟩
theorem over :Rows.wholeChunksRow.holds Tryz.pinned (OpenSpec.ofChange Rows.wholeChunksSpec):=
 OpenClaim.holds_of_wide 4 f4 rfl rfl rfl rfl rfl rfl rfl ⟨rfl,rfl,rfl,rfl,rfl⟩ rfl rfl rfl rfl rfl (by kernel_rfl) func4 (by kernel_rfl)
  (ye (by kernel_rfl)) (by unfold Func.isWrapper;first|(rw[zi (by decide+kernel)];kernel_rfl)|(rw[zh (by decide+kernel)];exact⟨rfl,rfl⟩))
  (fun os started H enc _=>lifted os started H enc)
theorem proved :Rows.WholeChunksCardSaid:=
 Claim7.holds_tied_plain_at .later [] [.data,.data,.data,.pinned] true (true, "51f278aba1a934dcf767831a51ab009816846d7dcd76e1fc6d8c547428f6282c") false over (fun _ h=>by cases h) (by kernel_rfl) (fun _ h=>by cases h) wholeChunks_row_tie rfl ⟨rfl,rfl⟩ (by kernel_rfl) rfl
  (fun f fn c i=>by
   obtain rfl:f=4:=yh ((show prog.funcNamed Rows.wholeChunksRow.func=some 4 by kernel_rfl).symm.trans c)|>.symm;obtain rfl:fn=f4:=(yh (func4.symm.trans i)).symm;exact⟨by kernel_rfl,fun j t b=>by
    rw[params4]at b;have d:t∈ [24,25,9,31,31]:=by simpa using Yp b
    have e:([24,25,9,31,31].all fun u=> !prog.wantsStandIn u)=true:=by kernel_rfl
    exact(show prog.wantsStandIn t=false by simpa using Za.1 e t d)⟩)
  (by kernel_rfl)
#print axioms proved
