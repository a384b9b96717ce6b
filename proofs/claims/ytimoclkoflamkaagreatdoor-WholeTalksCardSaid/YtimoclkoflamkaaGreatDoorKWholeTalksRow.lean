/- WholeTalks: for every input the law returns true; each argument reads afterwards as before. No condition. -/
import Derived.Test.YtimoclkoflamkaaGreatDoorKA45
import Derived.Test.YtimoclkoflamkaaGreatDoorTie
import Derived.Test.YtimoclkoflamkaaGreatDoorCards
import Derived.Lay
set_option linter.all false
set_option maxRecDepth 100000
open Go.Proofs.Tryz
namespace Go.Proofs.YtimoclkoflamkaaGreatDoor.wholeTalks
open Go.ChangeShapes Go.WideShapes Go.ChangeAt Go.RowKit Go.Proofs.YtimoclkoflamkaaGreatDoor
open Go.ChangeMaps (open_string shut_string)
def ZS:=@trodAll_cons_mk
def Yl:=@DataW.trod_lt
def YB:=@trodAll_cons
theorem own :ownKnob prog.godebug=none:=by kernel_rfl
theorem laid :laidOutB prog=true:=by kernel_rfl
theorem lifted (os:Os)(started:os.Started)(H:Type)(enc:TypeId×Value->H):
 ReturnsInHanded {} checked os 5 .any (fun w args=>(Rows.wholeTalksSpec.pre enc prog f5 [] false w args/\laidMetH prog Rows.wholeTalksRow.laid w)/\sizedMet enc prog f5 (OpenSpec.ofChange Rows.wholeTalksSpec) false w args) (Rows.wholeTalksSpec.post enc prog f5 false true false false):=by
 refine returnsInHanded_of_change_and (C:=checked) (X:=fun w _=>laidMetH prog Rows.wholeTalksRow.laid w) (fun _ _ _ hh h=>h.of_heap hh) own started (by kernel_rfl) func5
  (ChangeSpec.witness_shaped (enc:=enc) (C:=checked) (os:=os) (X:=fun w _=>laidMetH prog Rows.wholeTalksRow.laid w) false (World.laidAll prog os Rows.wholeTalksRow.laid) #[.agg #[.int .i64 0,.int .u32 0,.int .i64 0,.int .i64 0,.int .i64 0,.int .i64 0],.slice none 0 0,.slice none 0 0,.slice none 0 0] 8 (World.laidAll_os _ _ _)
   (World.shaped_of_ZipB (by kernel_rfl) (by kernel_rfl)) (by kernel_rfl) (by kernel_rfl) (by kernel_rfl)
   (by rw[Yb _ _ _ (by kernel_rfl)];exact laidMet_laidAll _ (by kernel_rfl) (by kernel_rfl))) ?_
 intro W base args ds gs ad z B _ _ hL _;have d:∀(j:Nat) t v,f5.params[j]?=some t->args[j]?=some v->Value.okWide prog W .any base t v:=z;have y:=B;obtain⟨p,q,u,F,rfl,aj,uX⟩:=B;have s:DataW.TrodAll enc prog W 0 (fun _=>true) true f5.params.toList args.toList ds p:=u;rw[params5]at s d;obtain⟨v0,ai,d0,al,Y,q0,ag,rfl,rfl,n,r0⟩:=YB s;obtain⟨A,ah,d1,ae,L,q1,rfl,rfl,rfl,l,r1⟩:=YB r0;obtain⟨v2,ak,d2,af,I,q2,rfl,rfl,rfl,r,E⟩:=YB r1;obtain⟨v3,an,d3,ab,K,q3,rfl,rfl,rfl,k,r3⟩:=YB E;obtain⟨rfl,rfl,rfl⟩:=trodAll_nil r3;obtain rfl:args= #[v0,A,v2,v3]:=by cases args;simp_all
 obtain⟨rfl,rfl⟩:=trodVars_none F;have uZ:∀x∈Y,x.block<W.heap.size:=fun x hx=>by obtain⟨b,c⟩:=n;exact Yl b _ _ _ c x hx
 obtain⟨D,rfl,U⟩:=C3 (d 0 24 v0 rfl rfl) n;have G:∀x∈L,x.block<W.heap.size:=fun x hx=>by obtain⟨b,c⟩:=l;exact Yl b _ _ _ c x hx
 obtain⟨l1,J,o,N⟩:=AK (d 1 25 A rfl rfl) l;replace o:=o.symm;subst o;have B3:∀x∈I,x.block<W.heap.size:=fun x hx=>by obtain⟨b,c⟩:=r;exact Yl b _ _ _ c x hx
 obtain⟨l2,S,m,aa⟩:=KS (d 2 42 v2 rfl rfl) r;replace m:=m.symm;subst m;have R:∀x∈K,x.block<W.heap.size:=fun x hx=>by obtain⟨b,c⟩:=k;exact Yl b _ _ _ c x hx
 obtain⟨O,M,i,Z⟩:=KT (d 3 55 v3 rfl rfl) k;replace i:=i.symm;subst i;clear u z;simp only[yO]at y;refine(EN D l1 J l2 S O M W U N aa Z (MF hL)).mono fun e W' ⟨he,bel⟩=> ?_
 subst he;exact⟨_,rfl,_,_,_,[],_,[],y,trodAll_mk1 (shut_bool underlying4 _),(ZS (Below.trod laid (by kernel_rfl) (zX (by kernel_rfl)) n bel uZ) (ZS (Below.trod laid (by kernel_rfl) (zX (by kernel_rfl)) l bel G) (ZS (Below.trod laid (by kernel_rfl) (zX (by kernel_rfl)) r bel B3) (ZS (Below.trod laid (by kernel_rfl) (zX (by kernel_rfl)) k bel R) trodAll_mk0)))),rfl,bel.frame _,fun h=>by cases h⟩
theorem over :Rows.wholeTalksRow.holds Tryz.pinned (OpenSpec.ofChange Rows.wholeTalksSpec):=
 OpenClaim.holds_of_wide 5 f5 rfl rfl rfl rfl rfl rfl rfl ⟨rfl,rfl,rfl,rfl,rfl⟩ rfl rfl rfl rfl rfl (by kernel_rfl) func5 (by kernel_rfl)
  (zX (by kernel_rfl)) (by unfold Func.isWrapper;first|(rw[zg (by decide+kernel)];kernel_rfl)|(rw[zf (by decide+kernel)];exact⟨rfl,rfl⟩))
  (fun os started H enc _=>lifted os started H enc)
theorem proved :Rows.WholeTalksCardSaid:=
 Claim7.holds_tied_plain_at .later [] [.data,.data,.data,.pinned] true (true, "90238ebd4251930a19804b872375551290112267c1049f2238ee14dcabdff21b") false over (fun _ h=>by cases h) (by kernel_rfl) (fun _ h=>by cases h) wholeTalks_row_tie rfl ⟨rfl,rfl⟩ (by kernel_rfl) rfl
  (fun f fn i c=>by
   obtain rfl:f=5:=xR ((show prog.funcNamed Rows.wholeTalksRow.func=some 5 by kernel_rfl).symm.trans i)|>.symm;obtain rfl:fn=f5:=(xR (func5.symm.trans c)).symm;exact⟨by kernel_rfl,fun j t b=>by
    rw[params5]at b;have e:t∈ [24,25,42,55]:=by simpa using YI b
    have d:([24,25,42,55].all fun u=> !prog.wantsStandIn u)=true:=by kernel_rfl
    exact(show prog.wantsStandIn t=false by simpa using Zh.1 d t e)⟩)
  (by kernel_rfl)
#print axioms proved
