/- The program's structures,as data. Written by dec3.py. -/
import Derived.Test.YtfkhlbhjhdpkoaaGreatDoorZpah
set_option linter.unusedVariables false
set_option linter.unusedSimpArgs false
namespace Go.Proofs.YtfkhlbhjhdpkoaaGreatDoor
open Go.RowKit
structure Source where
 Path:List UInt8
 Text:List UInt8
 deriving Inhabited,DecidableEq
def Jf(x:Source):D:=.ag [.v (str x.Path),.v (str x.Text)]
theorem JuJ(x y:Source)(h:Jf x=Jf y):x=y:=by
 rcases x with⟨_,_⟩; rcases y with⟨_,_⟩
 simp only[Jf,D.ag.injEq,List.cons.injEq,and_true]at h
 obtain⟨h0,h1⟩:=h
 have h0:=VF _ _ h0
 have h1:=VF _ _ h1
 subst_vars
 rfl
theorem Jtf(x y:Source)(h:Kd (Jf x)=Kd (Jf y)):x=y:=by
 rcases x with⟨_,_⟩; rcases y with⟨_,_⟩
 simp only[Jf,Kd,JbT,List.map_cons,List.map_nil,D.ag.injEq,List.cons.injEq,and_true]at h
 obtain⟨h0,h1⟩:=h
 have h0:=VF _ _ h0
 have h1:=VF _ _ h1
 subst_vars
 rfl
theorem Jnf(x:Source):(Jf x).cells.all D.one=true:=rfl
instance:DInj Jf:=⟨Jtf,JuJ⟩
structure Limits where
 Fuel:Int
 Out:Int
 Deep:Int
 deriving Inhabited,DecidableEq
def KH(x:Limits):D:=.ag [.v (.int .i64 x.Fuel),.v (.int .i64 x.Out),.v (.int .i64 x.Deep)]
theorem Ju3(x y:Limits)(h:KH x=KH y):x=y:=by
 rcases x with⟨_,_,_⟩; rcases y with⟨_,_,_⟩
 simp only[KH,D.ag.injEq,List.cons.injEq,and_true]at h
 obtain⟨h0,h1,h2⟩:=h
 have h0:=JP _ _ h0
 have h1:=JP _ _ h1
 have h2:=JP _ _ h2
 subst_vars
 rfl
theorem Js2(x y:Limits)(h:Kd (KH x)=Kd (KH y)):x=y:=by
 rcases x with⟨_,_,_⟩; rcases y with⟨_,_,_⟩
 simp only[KH,Kd,JbT,List.map_cons,List.map_nil,D.ag.injEq,List.cons.injEq,and_true]at h
 obtain⟨h0,h1,h2⟩:=h
 have h0:=JP _ _ h0
 have h1:=JP _ _ h1
 have h2:=JP _ _ h2
 subst_vars
 rfl
instance:DInj KH:=⟨Js2,Ju3⟩
structure Call where
 Name:List UInt8
 File:Int
 At:Int
 deriving Inhabited,DecidableEq
def Jl(x:Call):D:=.ag [.v (str x.Name),.v (.int .i64 x.File),.v (.int .i64 x.At)]
theorem Jfy(x y:Call)(h:Jl x=Jl y):x=y:=by
 rcases x with⟨_,_,_⟩; rcases y with⟨_,_,_⟩
 simp only[Jl,D.ag.injEq,List.cons.injEq,and_true]at h
 obtain⟨h0,h1,h2⟩:=h
 have h0:=VF _ _ h0
 have h1:=JP _ _ h1
 have h2:=JP _ _ h2
 subst_vars
 rfl
theorem Jv9(x y:Call)(h:Kd (Jl x)=Kd (Jl y)):x=y:=by
 rcases x with⟨_,_,_⟩; rcases y with⟨_,_,_⟩
 simp only[Jl,Kd,JbT,List.map_cons,List.map_nil,D.ag.injEq,List.cons.injEq,and_true]at h
 obtain⟨h0,h1,h2⟩:=h
 have h0:=VF _ _ h0
 have h1:=JP _ _ h1
 have h2:=JP _ _ h2
 subst_vars
 rfl
theorem JjJ(x:Call):(Jl x).cells.all D.one=true:=rfl
instance:DInj Jl:=⟨Jv9,Jfy⟩
structure Token where
 Kind:Int
 Text:List UInt8
 Space:Bool
 First:Bool
 File:Int
 At:Int
 End:Int
 Line:Int
 Hide:List (List UInt8)
 Calls:List Call
 Made:Int
 deriving Inhabited,DecidableEq
def Ja(x:Token):D:=.ag [.v (.int .i64 x.Kind),.v (str x.Text),.v (.bool x.Space),.v (.bool x.First),.v (.int .i64 x.File),.v (.int .i64 x.At),.v (.int .i64 x.End),.v (.int .i64 x.Line),.sl 1 (List.map dS x.Hide),.sl 3 (List.map Jl x.Calls),.v (.int .i64 x.Made)]
theorem Jik(x y:Token)(h:Ja x=Ja y):x=y:=by
 rcases x with⟨_,_,_,_,_,_,_,_,_,_,_⟩; rcases y with⟨_,_,_,_,_,_,_,_,_,_,_⟩
 simp only[Ja,D.ag.injEq,List.cons.injEq,and_true]at h
 obtain⟨h0,h1,h2,h3,h4,h5,h6,h7,h8,h9,h10⟩:=h
 have h0:=JP _ _ h0
 have h1:=VF _ _ h1
 have h2:=Xf _ _ h2
 have h3:=Xf _ _ h3
 have h4:=JP _ _ h4
 have h5:=JP _ _ h5
 have h6:=JP _ _ h6
 have h7:=JP _ _ h7
 have h8:=Jan (sz:=1) VF _ _ h8
 have h9:=Jan (sz:=3) Jfy _ _ h9
 have h10:=JP _ _ h10
 subst_vars
 rfl
theorem Jup(x y:Token)(h:Kd (Ja x)=Kd (Ja y)):x=y:=by
 rcases x with⟨_,_,_,_,_,_,_,_,_,_,_⟩; rcases y with⟨_,_,_,_,_,_,_,_,_,_,_⟩
 simp only[Ja,Kd,JbT,List.map_cons,List.map_nil,D.ag.injEq,List.cons.injEq,and_true]at h
 obtain⟨h0,h1,h2,h3,h4,h5,h6,h7,h8,h9,h10⟩:=h
 have h0:=JP _ _ h0
 have h1:=VF _ _ h1
 have h2:=Xf _ _ h2
 have h3:=Xf _ _ h3
 have h4:=JP _ _ h4
 have h5:=JP _ _ h5
 have h6:=JP _ _ h6
 have h7:=JP _ _ h7
 have h8:=Jan (sz:=0) VF _ _ h8
 have h9:=Jan (sz:=0) Jfy _ _ h9
 have h10:=JP _ _ h10
 subst_vars
 rfl
theorem KV(x:Token):(Ja x).cells.all D.one=true:=rfl
instance:DInj Ja:=⟨Jup,Jik⟩
structure Macro where
 Name:List UInt8
 Call:Bool
 Params:List (List UInt8)
 More:Bool
 Body:List Token
 deriving Inhabited,DecidableEq
def Je(x:Macro):D:=.ag [.v (str x.Name),.v (.bool x.Call),.sl 1 (List.map dS x.Params),.v (.bool x.More),.sl 11 (List.map Ja x.Body)]
theorem Jwm(x y:Macro)(h:Je x=Je y):x=y:=by
 rcases x with⟨_,_,_,_,_⟩; rcases y with⟨_,_,_,_,_⟩
 simp only[Je,D.ag.injEq,List.cons.injEq,and_true]at h
 obtain⟨h0,h1,h2,h3,h4⟩:=h
 have h0:=VF _ _ h0
 have h1:=Xf _ _ h1
 have h2:=Jan (sz:=1) VF _ _ h2
 have h3:=Xf _ _ h3
 have h4:=Jan (sz:=11) Jik _ _ h4
 subst_vars
 rfl
theorem JuA(x y:Macro)(h:Kd (Je x)=Kd (Je y)):x=y:=by
 rcases x with⟨_,_,_,_,_⟩; rcases y with⟨_,_,_,_,_⟩
 simp only[Je,Kd,JbT,List.map_cons,List.map_nil,D.ag.injEq,List.cons.injEq,and_true]at h
 obtain⟨h0,h1,h2,h3,h4⟩:=h
 have h0:=VF _ _ h0
 have h1:=Xf _ _ h1
 have h2:=Jan (sz:=0) VF _ _ h2
 have h3:=Xf _ _ h3
 have h4:=Jan (sz:=0) Jik _ _ h4
 subst_vars
 rfl
theorem JsA(x:Macro):(Je x).cells.all D.one=true:=rfl
instance:DInj Je:=⟨JuA,Jwm⟩
structure Fault where
 Err:Int
 File:Int
 At:Int
 deriving Inhabited,DecidableEq
def Kf(x:Fault):D:=.ag [.v (.int .i64 x.Err),.v (.int .i64 x.File),.v (.int .i64 x.At)]
theorem Jwo(x y:Fault)(h:Kf x=Kf y):x=y:=by
 rcases x with⟨_,_,_⟩; rcases y with⟨_,_,_⟩
 simp only[Kf,D.ag.injEq,List.cons.injEq,and_true]at h
 obtain⟨h0,h1,h2⟩:=h
 have h0:=JP _ _ h0
 have h1:=JP _ _ h1
 have h2:=JP _ _ h2
 subst_vars
 rfl
theorem JvF(x y:Fault)(h:Kd (Kf x)=Kd (Kf y)):x=y:=by
 rcases x with⟨_,_,_⟩; rcases y with⟨_,_,_⟩
 simp only[Kf,Kd,JbT,List.map_cons,List.map_nil,D.ag.injEq,List.cons.injEq,and_true]at h
 obtain⟨h0,h1,h2⟩:=h
 have h0:=JP _ _ h0
 have h1:=JP _ _ h1
 have h2:=JP _ _ h2
 subst_vars
 rfl
instance:DInj Kf:=⟨JvF,Jwo⟩
structure Spliced where
 Text:List UInt8
 At:List Int
 deriving Inhabited,DecidableEq
def J5(x:Spliced):D:=.ag [.v (str x.Text),.sl 1 (List.map dI x.At)]
theorem Js6(x y:Spliced)(h:J5 x=J5 y):x=y:=by
 rcases x with⟨_,_⟩; rcases y with⟨_,_⟩
 simp only[J5,D.ag.injEq,List.cons.injEq,and_true]at h
 obtain⟨h0,h1⟩:=h
 have h0:=VF _ _ h0
 have h1:=Jan (sz:=1) JP _ _ h1
 subst_vars
 rfl
theorem Jo5(x y:Spliced)(h:Kd (J5 x)=Kd (J5 y)):x=y:=by
 rcases x with⟨_,_⟩; rcases y with⟨_,_⟩
 simp only[J5,Kd,JbT,List.map_cons,List.map_nil,D.ag.injEq,List.cons.injEq,and_true]at h
 obtain⟨h0,h1⟩:=h
 have h0:=VF _ _ h0
 have h1:=Jan (sz:=0) JP _ _ h1
 subst_vars
 rfl
instance:DInj J5:=⟨Jo5,Js6⟩
structure drive_group where
 on_:Bool
 had_:Bool
 last_:Bool
 at_:Token
 deriving Inhabited,DecidableEq
abbrev YW:=UInt8×Bool
abbrev YV:=Int×Int×Int
abbrev YU:=List drive_group
abbrev YT:=List (List Token)
abbrev YS:=(Int×Int) ⊕ Int
abbrev YR:=List (List UInt8)
abbrev YQ:=(Int×Int) ⊕ Unit
abbrev YP:=(List UInt8)×Int
abbrev YO:=(List Token)×Int
abbrev YN:=Nat×(List Token)
abbrev YM:=(Int×Int) ⊕ Bool
abbrev YL:=Int×(List Token)
abbrev YK:=(UInt8×Int) ⊕ Int
abbrev YJ:=Int×Int×Int×Int
abbrev YI:=Int×List UInt8×Bool
abbrev YH:=Nat×List (List UInt8)
abbrev YG:=Unit ⊕ YV
abbrev YF:=Bool×Bool×Bool×Int
abbrev YE:=Int×Int×YR
abbrev YD:=Int×(List UInt8)×Int×Bool
abbrev YC:=(List Source)×(List UInt8)×Int
abbrev YB:=YL ⊕ (List Token)
abbrev YA:=Int×Int×Int×Int×(List Token)
abbrev Yz:=(List Token)×Int×Int×Int×Int
abbrev Yy:=Nat×Bool×Int×YU
abbrev Yx:=GR YJ (Bool×Int)
abbrev Yw:=(List Token)×(List Int)×(List Macro)
abbrev Yv:=((List UInt8)×Int×Int) ⊕ (List UInt8)
abbrev Yu:=YL ⊕ ((List Token)×Fault)
abbrev Yt:=Int→List UInt8→Option ((List Token)×Fault)
abbrev Ys:=(Bool×Int×Int×(List Token)) ⊕ (List Token)
abbrev Yr:=(Bool×Bool×Int) ⊕ YF
abbrev Yq:=Int ⊕ Yr
abbrev Yp:=Int×List Macro×List Int×List Int×Int×List Token
abbrev Yo:=(List Token)×(List Int)×(List Macro)×Int×Int×Int
abbrev Yn:=((List UInt8)×(List Int)×Int×(List UInt8)) ⊕ Spliced
abbrev Ym:=((List Token)×Int×Int×(List Token)) ⊕ (Macro×Fault)
abbrev Yl:=Int×(List Macro)×(List Int)×(List Int)×Int×(List Token)
abbrev Yk:=GR YJ Yy
abbrev Yj:=Int×Int×Int×Int×List Macro×List Int×List Int×Int×List Token
abbrev Yi:=Int×Int×Int×Int×(List Macro)×(List Int)×(List Int)×Int×(List Token)
abbrev Yh:=(Int×Nat×(List Token)×(List Token)) ⊕ (GR YJ YO)
abbrev Yg:=Int×(List UInt8)×Bool×Bool×Int×Int×Int×Int×YR×(List Call)×Int×Nat
abbrev Yf:=Bool×Int×(List UInt8)×Bool×Bool×Int×Int×Int×Int×YR×(List Call)×Int
abbrev Ye:=GR Yj Yp
abbrev Yd:=GR Yi Yl
abbrev Yc:=Int→(List Source)→Int→Int→Int→(List Macro)→(List Int)→(List Int)→Int→(List Token)→Option Yd
abbrev Yb:=(List Token)→(List Source)→Int→Int→Int→(List Macro)→(List Int)→(List Int)→Int→(List Token)→Option Yd
abbrev Ya:=(Nat×Int×Int×Int×(List Macro)×(List Int)×(List Int)×Int×YU×(List Token)×(List Token)) ⊕ Yd
def Jk(x:drive_group):D:=.ag [.v (.bool x.on_),.v (.bool x.had_),.v (.bool x.last_),.v (.int .i64 x.at_.Kind),.v (str x.at_.Text),.v (.bool x.at_.Space),.v (.bool x.at_.First),.v (.int .i64 x.at_.File),.v (.int .i64 x.at_.At),.v (.int .i64 x.at_.End),.v (.int .i64 x.at_.Line),.sl 1 (List.map dS x.at_.Hide),.sl 3 (List.map Jl x.at_.Calls),.v (.int .i64 x.at_.Made)]
theorem Jmm(x y:drive_group)(h:Jk x=Jk y):x=y:=by
 rcases x with⟨_,_,_,⟨_,_,_,_,_,_,_,_,_,_,_⟩⟩; rcases y with⟨_,_,_,⟨_,_,_,_,_,_,_,_,_,_,_⟩⟩
 simp only[Jk,D.ag.injEq,List.cons.injEq,and_true]at h
 obtain⟨h0,h1,h2,h3,h4,h5,h6,h7,h8,h9,h10,h11,h12,h13⟩:=h
 have h0:=Xf _ _ h0
 have h1:=Xf _ _ h1
 have h2:=Xf _ _ h2
 have h3:=JP _ _ h3
 have h4:=VF _ _ h4
 have h5:=Xf _ _ h5
 have h6:=Xf _ _ h6
 have h7:=JP _ _ h7
 have h8:=JP _ _ h8
 have h9:=JP _ _ h9
 have h10:=JP _ _ h10
 have h11:=Jan (sz:=1) VF _ _ h11
 have h12:=Jan (sz:=3) Jfy _ _ h12
 have h13:=JP _ _ h13
 subst_vars
 rfl
theorem Jlg(x y:drive_group)(h:Kd (Jk x)=Kd (Jk y)):x=y:=by
 rcases x with⟨_,_,_,⟨_,_,_,_,_,_,_,_,_,_,_⟩⟩; rcases y with⟨_,_,_,⟨_,_,_,_,_,_,_,_,_,_,_⟩⟩
 simp only[Jk,Kd,JbT,List.map_cons,List.map_nil,D.ag.injEq,List.cons.injEq,and_true]at h
 obtain⟨h0,h1,h2,h3,h4,h5,h6,h7,h8,h9,h10,h11,h12,h13⟩:=h
 have h0:=Xf _ _ h0
 have h1:=Xf _ _ h1
 have h2:=Xf _ _ h2
 have h3:=JP _ _ h3
 have h4:=VF _ _ h4
 have h5:=Xf _ _ h5
 have h6:=Xf _ _ h6
 have h7:=JP _ _ h7
 have h8:=JP _ _ h8
 have h9:=JP _ _ h9
 have h10:=JP _ _ h10
 have h11:=Jan (sz:=0) VF _ _ h11
 have h12:=Jan (sz:=0) Jfy _ _ h12
 have h13:=JP _ _ h13
 subst_vars
 rfl
theorem Jol(x:drive_group):(Jk x).cells.all D.one=true:=rfl
instance:DInj Jk:=⟨Jlg,Jmm⟩
end Go.Proofs.YtfkhlbhjhdpkoaaGreatDoor
