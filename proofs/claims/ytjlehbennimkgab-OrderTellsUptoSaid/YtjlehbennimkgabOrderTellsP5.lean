/- Functions, and what the code asks of them: PStr. -/
import Derived.KernelRfl
import Derived.Lib.TrimU
import Derived.Test.YtjlehbennimkgabOrderTellsP4
set_option linter.unusedVariables false
set_option linter.unusedSimpArgs false
/- Signs in texts. -/
namespace Go.Abs
open Go
def ltr (x:UInt8):Bool:=(97≤x&&x≤122) || (48≤x&&x≤57) || x==45
end Go.Abs

-- strings.ContainsFunc
namespace Go.Abs
open Go
end Go.Abs

-- strings.IndexFunc
namespace Go.Abs
open Go
end Go.Abs

/- strings.ContainsFunc -/
namespace Go.Abs
open Go
set_option linter.unusedVariables false
end Go.Abs

-- interregnum/ident.odd
namespace Go.Abs
open Go
end Go.Abs

-- strings.ContainsRune
namespace Go.Abs
open Go
end Go.Abs

/- interregnum/ident.odd -/
namespace Go.Abs
open Go
set_option linter.unusedVariables false
end Go.Abs

-- strings.indexFunc
namespace Go.Abs
open Go
end Go.Abs

/- strings.IndexFunc -/
namespace Go.Abs
open Go
set_option linter.unusedVariables false
end Go.Abs

-- strings.IndexRune
namespace Go.Abs
open Go
end Go.Abs

/- strings.ContainsRune -/
namespace Go.Abs
open Go
set_option linter.unusedVariables false
end Go.Abs

/- strings.indexFunc -/
namespace Go.Abs
open Go
set_option linter.unusedVariables false
end Go.Abs

-- strings.IndexByte
namespace Go.Abs
open Go
end Go.Abs

-- unicode/utf8.ValidRune
namespace Go.Abs
open Go
end Go.Abs

/- strings.IndexRune -/
namespace Go.Abs
open Go
set_option linter.unusedVariables false
end Go.Abs

-- internal/stringslite.IndexByte
namespace Go.Abs
open Go
end Go.Abs

/- strings.IndexByte -/
namespace Go.Abs
open Go
set_option linter.unusedVariables false
end Go.Abs

/- unicode/utf8.ValidRune -/
namespace Go.Abs
open Go
set_option linter.unusedVariables false
end Go.Abs

-- internal/bytealg.IndexByteString
namespace Go.Abs
open Go
end Go.Abs

/- internal/stringslite.IndexByte -/
namespace Go.Abs
open Go
set_option linter.unusedVariables false
end Go.Abs

/- Signs in texts: what the code asks is so. -/
namespace Go.Abs
open Go
end Go.Abs
